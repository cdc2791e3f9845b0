/-
  Parts of a walk: what functions of the program compute, each told by a theorem (QF6, QF7, Qsd3, QsSh3, Qsd4, Qsd4s, Qsd4l, Qsd5, Qsd6, Qsm0, Qsn1, Qss1, Qss2, Qsh1, QF8, Qsh2, Qsn2, QEq, QsEq8, Qsh6).
-/
import Derived.Test.YtmfppdpfljpphaaGreatDoorB2
import Derived.Shelf.SlIterI.Sorted
import Derived.Shelf.SortM.Plain
import Derived.Shelf.SortM.SortNone
import Derived.Maps.Range
import Derived.LoopN
import Derived.Laws.StructEq
set_option linter.unusedVariables false
set_option linter.unusedSimpArgs false
set_option maxHeartbeats 4000000
set_option linter.unnecessarySimpa false
namespace Go.Q
section
variable {P : Program} {ops : List Oper} {Q : Exit → Act → World → Prop}
def okOp (P : Program) (ops : List Oper) (i : Nat) (K : Act → World → Prop) (a : Act) (w : World) : Prop :=
 ∃ o, ops[i]? = some o ∧ ((Region.wanted o (yielded ops.toArray a.tmps) = true ∧ OK P o a.eval w fun v w' => K (a.put o.dst v) w') ∨ (Region.wanted o (yielded ops.toArray a.tmps) = false ∧ K (a.put o.dst undef) w))
theorem okOp.mono {i : Nat} {K K' : Act → World → Prop} {a : Act} {w : World} (h : okOp P ops i K a w) (hk : ∀ a w, K a w → K' a w) : okOp P ops i K' a w := by
 obtain ⟨o, ho, ⟨h1, h2⟩ | ⟨h1, h2⟩⟩ := h
 · exact ⟨o, ho, .inl ⟨h1, h2.mono fun v w' => hk _ _⟩⟩
 · exact ⟨o, ho, .inr ⟨h1, hk _ _ h2⟩⟩
theorem okOp.wp {i : Nat} {K : Act → World → Prop} {a : Act} {w : World} (h : okOp P ops i K a w) : wpOp P ops.toArray Q i K a w := by
 obtain ⟨o, ho, h⟩ := h
 unfold wpOp
 rw [show ops.toArray[i]? = some o by simpa using ho]
 rcases h with ⟨h1, h2⟩ | ⟨h1, h2⟩
 · simp only [h1, if_true]; exact .inl h2.wp
 · simp only [h1, Bool.false_eq_true, if_false]; exact h2
def allB (hi : Nat) (l : Array Bool) : Bool := (List.range hi).all fun i => l.getD i false
def anyI (P : Program) (ops : List Oper) (hi : Nat) (K : Act → World → Prop) (I : World → Prop) : Nat → Array Bool → Act → World → Prop
 | 0, l, a, w => I w ∧ allB hi l = true ∧ K a w
 | n + 1, l, a, w => I w ∧ allB hi l = false ∧ ∀ i ∈ Region.ready .any ops.toArray l, i < hi → okOp P ops i (anyI P ops hi K I n (l.setIfInBounds i true)) a w
theorem anyI.inv {hi : Nat} {K : Act → World → Prop} {I : World → Prop} : ∀ {n : Nat} {l : Array Bool} {a : Act} {w : World}, anyI P ops hi K I n l a w → I w
 | 0, _, _, _, h => h.1
 | _ + 1, _, _, _, h => h.1
def YI (P : Program) (ops : List Oper) (o : Oper) (v : Value) (a : Act) (I : World → Prop) : Prop :=
 (Region.wanted o (yielded ops.toArray a.tmps) = true ∧ ∀ w, I w → OK P o a.eval w fun v' w' => v' = v ∧ w' = w) ∨ (Region.wanted o (yielded ops.toArray a.tmps) = false ∧ v = undef)
theorem OK.congr {o : Oper} {ρ ρ' : Operand → Value} {w : World} {K : Value → World → Prop} (h : execOp ρ' o = execOp ρ o) (k : OK P o ρ w K) : OK P o ρ' w K := by
 unfold OK at *; rw [h]; exact k
theorem YI.same {o : Oper} {v : Value} {a a' : Act} {I : World → Prop} (h : YI P ops o v a I) (he : execOp a'.eval o = execOp a.eval o) (hw : Region.wanted o (yielded ops.toArray a'.tmps) = Region.wanted o (yielded ops.toArray a.tmps)) : YI P ops o v a' I := by
 unfold YI at *
 rw [hw]
 exact h.imp (fun g => ⟨g.1, fun w hI => (g.2 w hI).congr he⟩) id
theorem YI.ok {i : Nat} {o : Oper} {v : Value} {a : Act} {I : World → Prop} {K : Act → World → Prop} {w : World} (hi : ops[i]? = some o) (h : YI P ops o v a I) (hI : I w) (hk : K (a.put o.dst v) w) : okOp P ops i K a w := by
 refine ⟨o, hi, ?_⟩
 rcases h with ⟨h1, h2⟩ | ⟨h1, rfl⟩
 · exact .inl ⟨h1, (h2 w hI).mono fun v' w' ⟨e1, e2⟩ => by rw [e1, e2]; exact hk⟩
 · exact .inr ⟨h1, hk⟩
theorem okOp_put {j : Nat} {oi oj : Oper} {v : Value} {I : World → Prop} (hj : ops[j]? = some oj) (hap : oi.apart ops.toArray oj = true) (hsi : ∀ cs b, oi.op ≠ .select cs b) (hsj : ∀ cs b, oj.op ≠ .select cs b)
  {K : Act → World → Prop} {a : Act} {w : World} (hy : YI P ops oi v a I) (h : okOp P ops j K (a.put oi.dst v) w) : okOp P ops j (fun a' w' => YI P ops oi v a' I ∧ K (a'.put oi.dst v) w') a w := by
 obtain ⟨h1, h2, h3⟩ := Oper.apart_spec hap
 have keep : ∀ u, YI P ops oi v (a.put oj.dst u) I := fun u => hy.same (execOp_put oi hsi a oj.dst u h3) (wanted_put oi a oj.dst u h3)
 obtain ⟨o, ho, h⟩ := h
 obtain rfl : o = oj := Option.some.inj (ho.symm.trans hj)
 refine ⟨o, ho, ?_⟩
 rw [wanted_put o a oi.dst v h1] at h
 rcases h with ⟨g1, g2⟩ | ⟨g1, g2⟩
 ·
  refine .inl ⟨g1, OK.congr (execOp_put o hsj a oi.dst v h1).symm (g2.mono fun u w' hk => ⟨keep u, ?_⟩)⟩
  rw [← Act.put_comm a v u h2]; exact hk
 ·
  refine .inr ⟨g1, keep _, ?_⟩
  rw [← Act.put_comm a v undef h2]; exact g2
theorem ready_un {i : Nat} {l : Array Bool} (h : i ∈ Region.ready .any ops.toArray l) : l.getD i false = false ∧ i < l.size := by
 have h0 := (mem_ready.1 h).1
 rcases Nat.lt_or_ge i l.size with g | g
 ·
  refine ⟨?_, g⟩
  simp [g] at h0 ⊢; exact h0
 · simp [Array.getElem?_eq_none g] at h0
theorem allB_un {hi i : Nat} {l : Array Bool} (h : l.getD i false = false) (hlt : i < hi) : allB hi l = false := by
 cases e : allB hi l with
 | false => rfl
 | true =>
  unfold allB at e
  rw [List.all_eq_true] at e
  have := e i (List.mem_range.2 hlt)
  rw [h] at this; cases this
theorem anyI_first {hi i : Nat} {oi : Oper} {v : Value} {K : Act → World → Prop} {I : World → Prop} (hoi : ops[i]? = some oi) (hlt : i < hi) (hsel : ∀ (j : Nat) (o : Oper) cs b, ops[j]? = some o → o.op ≠ .select cs b) :
  ∀ (n : Nat) (l : Array Bool) (a : Act) (w : World),
   (∀ j oj, ops[j]? = some oj → j ≠ i → l.getD j true = false → (∀ e ∈ oj.after, Region.binds .any e = true → e.on ≠ i) → oi.apart ops.toArray oj = true) →
   i ∈ Region.ready .any ops.toArray l → YI P ops oi v a I → anyI P ops hi K I n (l.setIfInBounds i true) (a.put oi.dst v) w → anyI P ops hi K I (n + 1) l a w := by
 intro n
 induction n with
 | zero =>
  intro l a w _ hr hy H
  have hu := ready_un hr
  refine ⟨H.inv, allB_un hu.1 hlt, fun j hj hjh => ?_⟩
  by_cases hji : j = i
  · subst hji; exact hy.ok hoi H.inv H
  ·
   have h2 := ready_un (ready_mono hj hji)
   have := allB_un h2.1 hjh
   rw [H.2.1] at this; cases this
 | succ n ih =>
  intro l a w hfree hr hy H
  have hu := ready_un hr
  refine ⟨H.inv, allB_un hu.1 hlt, fun j hj hjh => ?_⟩
  by_cases hji : j = i
  · subst hji; exact hy.ok hoi H.inv H
  ·
   have h1 := H.2.2 j (ready_mono hj hji) hjh
   obtain ⟨hjun, oj, hoj, hall⟩ := mem_ready.1 hj
   have hoj' : ops[j]? = some oj := by simpa using hoj
   have hnot : ∀ e ∈ oj.after, Region.binds .any e = true → e.on ≠ i := fun e he hb heq => by
    have h1 := hall e he hb
    rw [heq, hu.1] at h1; cases h1
   have h2 := okOp_put hoj' (hfree j oj hoj' hji hjun hnot) (fun cs b => hsel i oi cs b hoi) (fun cs b => hsel j oj cs b hoj') hy h1
   have hfree' : ∀ k ok, ops[k]? = some ok → k ≠ i → (l.setIfInBounds j true).getD k true = false → (∀ e ∈ ok.after, Region.binds .any e = true → e.on ≠ i) → oi.apart ops.toArray ok = true := fun k ok hk hki hun hno => by
    refine hfree k ok hk hki ?_ hno
    by_cases hjk : j = k
    · subst hjk; exact hjun
    · rw [getD_set_ne true hjk] at hun; exact hun
   refine h2.mono fun a' w' h3 => ih (l.setIfInBounds j true) a' w' hfree' (ready_mono hr (Ne.symm hji)) h3.1 ?_
   rw [Array.setIfInBounds_comm _ _ hji]
   exact h3.2
theorem anyI_wp {hi : Nat} {I : World → Prop} (hok : flowOk3 ops = true) (hbar : barB ops hi = true) (hhi : hi ≤ ops.length) : ∀ (n fuel : Nat) (l : Array Bool) (a : Act) (w : World), l.size = ops.length → (∀ i, hi ≤ i → l.getD i false = false) →
  (∀ i, l.getD i false = true → ∀ d ∈ depsOf ops i, l.getD d false = true) → n + (ops.length - hi) ≤ fuel → anyI P ops hi (Rest P Q ops hi) I n l a w → wpAny P .any ops.toArray Q fuel l a w
 | 0, fuel, l, a, w, hsz, hnot, _, hf, h => by
  refine h.2.2 hok fuel l hsz (fun i hi' => ?_) hnot (by omega)
  have := h.2.1
  unfold allB at this
  rw [List.all_eq_true] at this
  exact this i (List.mem_range.2 hi')
 | n + 1, fuel, l, a, w, hsz, hnot, hcl, hf, h => by
  obtain ⟨f, rfl⟩ : ∃ f, fuel = f + 1 := ⟨fuel - 1, by omega⟩
  obtain ⟨_, hall, hr⟩ := h
  obtain ⟨m, hm, hum, hmin⟩ : ∃ m, m < hi ∧ l.getD m false = false ∧ ∀ j, j < m → l.getD j false = true := by
   unfold allB at hall
   rw [List.all_eq_false] at hall
   obtain ⟨x, hx, hxu⟩ := hall
   have hx' : x < hi := List.mem_range.1 hx
   have hxu' : l.getD x false = false := by simpa using hxu
   clear hxu hx
   induction x using Nat.strongRecOn with
   | ind x ih =>
    by_cases g : ∃ j, j < x ∧ l.getD j false = false
    · obtain ⟨j, hj, hju⟩ := g; exact ih j hj (by omega) hju
    ·
     exact ⟨x, hx', hxu', fun j hj => by
      cases e : l.getD j false with
      | true => rfl
      | false => exact absurd ⟨j, hj, e⟩ g⟩
  have hml : m < ops.length := by omega
  have hmr : m ∈ Region.ready .any ops.toArray l := by
   refine mem_ready.2 ⟨?_, ops[m], by simp [hml], fun e he hb => ?_⟩
   ·
    have hs : m < l.size := by omega
    simp [hs] at hum ⊢; exact hum
   ·
    have hd := mem_depsOf (List.getElem?_eq_getElem hml) he hb
    exact hmin _ ((flowOk3_spec hok (List.getElem?_eq_getElem hml)).1 _ hd)
  refine ⟨fun g => (by rw [g] at hmr; cases hmr), fun i hi' => ?_⟩
  obtain ⟨hiu, his⟩ := ready_un hi'
  obtain ⟨_, o, ho, hdone⟩ := mem_ready.1 hi'
  have ho' : ops[i]? = some o := by simpa using ho
  have hdeps : ∀ d ∈ depsOf ops i, l.getD d false = true := by
   intro d hd
   unfold depsOf at hd
   rw [ho'] at hd
   obtain ⟨e, he, heq⟩ := List.mem_filterMap.1 hd
   split at heq
   · cases heq; exact hdone e (by simpa using he) (by assumption)
   · cases heq
  have hih : i < hi := by
   rcases Nat.lt_or_ge i hi with g | g
   · exact g
   ·
    have := anc_trans3 hok hcl _ i m (barB_spec hbar i m g (by omega) hm) hdeps
    rw [hum] at this; cases this
  refine wpOp_mono ?_ (hr i hi' hih).wp
  intro a' w' h'
  refine anyI_wp hok hbar hhi n f _ a' w' (by simpa using hsz) (fun j hj => ?_) (fun j hj d hd => ?_) (by omega) h'
  · rw [getD_set_ne false (show i ≠ j by omega)]; exact hnot j hj
  ·
   by_cases e : i = j
   · subst e; exact getD_set_true (hdeps d hd)
   · rw [getD_set_ne false e] at hj; exact getD_set_true (hcl j hj d hd)
def prefB (lo n : Nat) : Array Bool := (List.replicate lo true ++ List.replicate (n - lo) false).toArray
def freeB (ops : List Oper) (hi : Nat) (l : Array Bool) (k : Nat) : Bool := Region.noSelect ops.toArray && Region.free .any ops.toArray l k && (Region.ready .any ops.toArray l).contains k && decide (k < hi)
def onlyB (ops : List Oper) (hi : Nat) (l : Array Bool) (k : Nat) : Bool := (Region.ready .any ops.toArray l).all (fun i => i == k || decide (hi ≤ i)) && (Region.ready .any ops.toArray l).contains k && decide (k < hi)
theorem Rest.phaseA {N : Nat} {r : Nat → Value} {w : World} (I : World → Prop) (lo hi m : Nat) (hm : lo + m = hi) (hhi : decide (hi ≤ ops.length) = true) (hbar : barB ops hi = true)
  (h : anyI P ops hi (Rest P Q ops hi) I m (prefB lo ops.length) (Go.Q.fr N r) w) : Rest P Q ops lo (Go.Q.fr N r) w := by
 intro hok fuel listed hsz hall hnot hf
 have hhi := of_decide_eq_true hhi
 have e : listed = prefB lo ops.length := by
  unfold prefB
  apply Array.ext
  · simp [hsz]; omega
  ·
   intro i h1 h2
   rcases Nat.lt_or_ge i lo with g | g
   ·
    have := hall i g
    simp [h1] at this
    rw [this]; simp [List.getElem_append, g]
   ·
    have := hnot i g
    simp [h1] at this
    rw [this]; simp [List.getElem_append, Nat.not_lt.2 g]
 subst e
 refine anyI_wp hok hbar hhi m fuel _ _ w hsz (fun i hi' => hnot i (by omega)) (fun i hi' d hd => ?_) (by omega) h
 have hil : i < lo := by
  rcases Nat.lt_or_ge i lo with g | g
  · exact g
  · rw [hnot i g] at hi'; cases hi'
 have := (flowOk3_spec hok (List.getElem?_eq_getElem (show i < ops.length by omega))).1 d hd
 exact hall d (by omega)
section
variable {hi : Nat} {K : Act → World → Prop} {I : World → Prop} {N n : Nat} {l : Array Bool} {r : Nat → Value} {w : World}
theorem zM {a : Act} (h : allB hi l = true) (hI : I w) (hk : K a w) : anyI P ops hi K I 0 l a w := ⟨hI, h, hk⟩
theorem freeB_spec {k : Nat} (h : freeB ops hi l k = true) : Region.noSelect ops.toArray = true ∧ Region.free .any ops.toArray l k = true ∧ k ∈ Region.ready .any ops.toArray l ∧ k < hi := by
 unfold freeB at h
 simp only [Bool.and_eq_true, decide_eq_true_eq, List.contains_iff_mem] at h
 exact ⟨h.1.1.1, h.1.1.2, h.1.2, h.2⟩
theorem onlyB_spec {k : Nat} (h : onlyB ops hi l k = true) : (∀ i ∈ Region.ready .any ops.toArray l, i < hi → i = k) ∧ k ∈ Region.ready .any ops.toArray l ∧ k < hi := by
 unfold onlyB at h
 simp only [Bool.and_eq_true, decide_eq_true_eq, List.contains_iff_mem, List.all_eq_true, Bool.or_eq_true, beq_iff_eq] at h
 exact ⟨fun i hi' hlt => (h.1.1 i hi').elim id fun g => by omega, h.1.2, h.2⟩
theorem a_first {k : Nat} {o : Oper} {v : Value} {a : Act} (ho : ops[k]? = some o) (hf : freeB ops hi l k = true) (hy : YI P ops o v a I) (h : anyI P ops hi K I n (l.setIfInBounds k true) (a.put o.dst v) w) : anyI P ops hi K I (n + 1) l a w := by
 obtain ⟨h1, h2, h3, h4⟩ := freeB_spec hf
 have ho' : ops.toArray[k]? = some o := by simpa using ho
 exact anyI_first ho h4 (fun j o cs b hj => Region.noSelect_spec h1 j o cs b (by simpa using hj)) n l a w (fun j oj hj => Region.free_spec ho' h2 j oj (by simpa using hj)) h3 hy h
theorem zn {d : Nat} {op : Op} {T : TypeId} {pos : String} {after : Array Edge} {v : Value} (k : Nat) (ho : ops[k]? = some ⟨some d, op, T, pos, after, none⟩) (hf : freeB ops hi l k = true)
  (hv : ∀ w', I w' → OK P ⟨some d, op, T, pos, after, none⟩ (ev N r) w' fun v' w'' => v' = v ∧ w'' = w') (h : anyI P ops hi K I n (l.setIfInBounds k true) (Go.Q.fr N (upd r d v)) w) : anyI P ops hi K I (n + 1) l (Go.Q.fr N r) w := by
 refine a_first ho hf (.inl ⟨by simp [Region.wanted], fun w' hI => ?_⟩) (v := v) (by rw [fr_put]; exact h)
 rw [fr_eval]; exact hv w' hI
theorem a_on {d : Nat} {op : Op} {T : TypeId} {pos : String} {after : Array Edge} {g : Nat} {b : Bool} {v : Value} (k : Nat) (ho : ops[k]? = some ⟨some d, op, T, pos, after, some (g, b)⟩) (hf : freeB ops hi l k = true) (t : Nat) (hgt : dstOf ops g = some t) (hg : ev N r (.tmp t) = .bool b)
  (hv : ∀ w', I w' → OK P ⟨some d, op, T, pos, after, some (g, b)⟩ (ev N r) w' fun v' w'' => v' = v ∧ w'' = w') (h : anyI P ops hi K I n (l.setIfInBounds k true) (Go.Q.fr N (upd r d v)) w) : anyI P ops hi K I (n + 1) l (Go.Q.fr N r) w := by
 refine a_first ho hf (.inl ⟨?_, fun w' hI => ?_⟩) (v := v) (by rw [fr_put]; exact h)
 ·
  obtain ⟨og, h1, h2⟩ := dstOf_spec ops g hgt
  rw [wanted_fr h1 h2 hg]; simp
 · rw [fr_eval]; exact hv w' hI
theorem yd {d : Nat} {op : Op} {T : TypeId} {pos : String} {after : Array Edge} {g : Nat} {b b' : Bool} (k : Nat) (ho : ops[k]? = some ⟨some d, op, T, pos, after, some (g, b)⟩) (hf : freeB ops hi l k = true) (t : Nat) (hgt : dstOf ops g = some t) (hg : ev N r (.tmp t) = .bool b') (hne : (b' == b) = false)
  (h : anyI P ops hi K I n (l.setIfInBounds k true) (Go.Q.fr N (upd r d undef)) w) : anyI P ops hi K I (n + 1) l (Go.Q.fr N r) w := by
 refine a_first ho hf (.inr ⟨?_, rfl⟩) (by rw [fr_put]; exact h)
 obtain ⟨og, h1, h2⟩ := dstOf_spec ops g hgt
 rw [wanted_fr h1 h2 hg, hne]
theorem a_only {k : Nat} {o : Oper} {a : Act} (ho : ops[k]? = some o) (hr : onlyB ops hi l k = true) (hI : I w) (h : okOp P ops k (anyI P ops hi K I n (l.setIfInBounds k true)) a w) : anyI P ops hi K I (n + 1) l a w := by
 obtain ⟨h1, h2, h3⟩ := onlyB_spec hr
 exact ⟨hI, allB_un (ready_un h2).1 h3, fun i hi' hlt => by rw [h1 i hi' hlt]; exact h⟩
theorem a_w {d : Nat} {op : Op} {T : TypeId} {pos : String} {after : Array Edge} (k : Nat) (ho : ops[k]? = some ⟨some d, op, T, pos, after, none⟩) (hr : onlyB ops hi l k = true) (hI : I w)
  (h : OK P ⟨some d, op, T, pos, after, none⟩ (ev N r) w fun v w' => anyI P ops hi K I n (l.setIfInBounds k true) (Go.Q.fr N (upd r d v)) w') : anyI P ops hi K I (n + 1) l (Go.Q.fr N r) w := by
 refine a_only ho hr hI ⟨_, ho, .inl ⟨by simp [Region.wanted], ?_⟩⟩
 rw [fr_eval]; exact h.mono fun v w' hh => by rw [fr_put]; exact hh
theorem a_we {op : Op} {T : TypeId} {pos : String} {after : Array Edge} (k : Nat) (ho : ops[k]? = some ⟨none, op, T, pos, after, none⟩) (hr : onlyB ops hi l k = true) (hI : I w)
  (h : OK P ⟨none, op, T, pos, after, none⟩ (ev N r) w fun _ w' => anyI P ops hi K I n (l.setIfInBounds k true) (Go.Q.fr N r) w') : anyI P ops hi K I (n + 1) l (Go.Q.fr N r) w := by
 refine a_only ho hr hI ⟨_, ho, .inl ⟨by simp [Region.wanted], ?_⟩⟩
 rw [fr_eval]; exact h
theorem a_won {d : Nat} {op : Op} {T : TypeId} {pos : String} {after : Array Edge} {g : Nat} {b : Bool} (k : Nat) (ho : ops[k]? = some ⟨some d, op, T, pos, after, some (g, b)⟩) (hr : onlyB ops hi l k = true) (hI : I w) (t : Nat) (hgt : dstOf ops g = some t) (hg : ev N r (.tmp t) = .bool b)
  (h : OK P ⟨some d, op, T, pos, after, some (g, b)⟩ (ev N r) w fun v w' => anyI P ops hi K I n (l.setIfInBounds k true) (Go.Q.fr N (upd r d v)) w') : anyI P ops hi K I (n + 1) l (Go.Q.fr N r) w := by
 refine a_only ho hr hI ⟨_, ho, .inl ⟨?_, ?_⟩⟩
 ·
  obtain ⟨og, h1, h2⟩ := dstOf_spec ops g hgt
  rw [wanted_fr h1 h2 hg]; simp
 · rw [fr_eval]; exact h.mono fun v w' hh => by rw [fr_put]; exact hh
def twoB (ops : List Oper) (hi : Nat) (l : Array Bool) (k k2 : Nat) : Bool := (Region.ready .any ops.toArray l).all (fun i => i == k || i == k2 || decide (hi ≤ i)) && (Region.ready .any ops.toArray l).contains k && decide (k < hi)
theorem a_two {a : Act} (k k2 : Nat) (hr : twoB ops hi l k k2 = true) (hI : I w) (h1 : okOp P ops k (anyI P ops hi K I n (l.setIfInBounds k true)) a w) (h2 : okOp P ops k2 (anyI P ops hi K I n (l.setIfInBounds k2 true)) a w) : anyI P ops hi K I (n + 1) l a w := by
 unfold twoB at hr
 simp only [Bool.and_eq_true, decide_eq_true_eq, List.contains_iff_mem, List.all_eq_true, Bool.or_eq_true, beq_iff_eq] at hr
 refine ⟨hI, allB_un (ready_un hr.1.2).1 hr.2, fun i hi' hlt => ?_⟩
 rcases hr.1.1 i hi' with (e | e) | e
 · rw [e]; exact h1
 · rw [e]; exact h2
 · omega
theorem ok_w {K : Act → World → Prop} {d : Nat} {op : Op} {T : TypeId} {pos : String} {after : Array Edge} (k : Nat) (ho : ops[k]? = some ⟨some d, op, T, pos, after, none⟩)
  (h : OK P ⟨some d, op, T, pos, after, none⟩ (ev N r) w fun v w' => K (Go.Q.fr N (upd r d v)) w') : okOp P ops k K (Go.Q.fr N r) w := by
 refine ⟨_, ho, .inl ⟨by simp [Region.wanted], ?_⟩⟩
 rw [fr_eval]; exact h.mono fun v w' hh => by rw [fr_put]; exact hh
end
theorem ix_ex1 {α : Type} {f : α → Value} {ls : List α} {a : α} {t e : TypeId} {L : List Hp} {by_ : Nat} {v z : Value} {i : Int} (ht : P.underlying t = some (.slice e)) (hi : TI P e z 1 by_)
  (hs : Sl L 1 v ls.length (ls.map f)) (h0 : 0 ≤ i) (ha : ls[i.toNat]? = some a) : ∃ b off, CellsAt L b off [f a] ∧ ∀ {ρ : Operand → Value} {dst : Option Tmp} {T : TypeId} {pos : String} {after : Array Edge} {g : Option (Nat × Bool)} {x y : Operand} {k : IntKind} {w : World} {K : Value → World → Prop},
   ρ x = v → ρ y = .int k i → K (.pointer (some ⟨b, off, none⟩)) w → OK P ⟨dst, .indexAddr t x y, T, pos, after, g⟩ ρ w K := by
 have hi' : i.toNat < ls.length := (List.getElem?_eq_some_iff.1 ha).1
 obtain ⟨p, cap, rfl, hnc, hcm, hl, hp⟩ := hs
 obtain ⟨b, off, rfl, hc⟩ := hp (by omega)
 have hc' : CellsAt L b (off + i.toNat * 1) (((ls.map f).drop (i.toNat * 1)).take 1) := hc.sub fun j v hv => by
  rw [List.getElem?_take] at hv
  split at hv
  · rw [List.getElem?_drop] at hv; exact hv
  · cases hv
 rw [drop_take_map f ls i.toNat hi', show ls[i.toNat] = a from (List.getElem?_eq_some_iff.1 ha).2] at hc'
 refine ⟨b, _, hc', fun hx hy hK => OK.val (run_v ?_) hK⟩
 rw [hx, hy]
 simp [Instr.indexAt, asIntOf, run_underlying ht, h0, show i < ls.length by omega, hi.size, add_lit]
theorem ix_exF {α : Type} {f : α → List Value} {sz : Nat} (hf : ∀ a, (f a).length = sz) {ls : List α} {a : α} {t e : TypeId} {L : List Hp} {by_ : Nat} {v z : Value} {i : Int} (ht : P.underlying t = some (.slice e)) (hi : TI P e z sz by_)
  (hs : Sl L sz v ls.length (ls.flatMap f)) (h0 : 0 ≤ i) (ha : ls[i.toNat]? = some a) : ∃ b off, CellsAt L b off (f a) ∧ ∀ {ρ : Operand → Value} {dst : Option Tmp} {T : TypeId} {pos : String} {after : Array Edge} {g : Option (Nat × Bool)} {x y : Operand} {k : IntKind} {w : World} {K : Value → World → Prop},
   ρ x = v → ρ y = .int k i → K (.pointer (some ⟨b, off, none⟩)) w → OK P ⟨dst, .indexAddr t x y, T, pos, after, g⟩ ρ w K := by
 have hi' : i.toNat < ls.length := (List.getElem?_eq_some_iff.1 ha).1
 obtain ⟨p, cap, rfl, hnc, hcm, hl, hp⟩ := hs
 obtain ⟨b, off, rfl, hc⟩ := hp (by omega)
 have hc' : CellsAt L b (off + i.toNat * sz) (((ls.flatMap f).drop (i.toNat * sz)).take sz) := hc.sub fun j v hv => by
  rw [List.getElem?_take] at hv
  split at hv
  · rw [List.getElem?_drop] at hv; exact hv
  · cases hv
 rw [flat_part hf ls i.toNat a ha] at hc'
 refine ⟨b, _, hc', fun hx hy hK => OK.val (run_v ?_) hK⟩
 rw [hx, hy]
 simp [Instr.indexAt, asIntOf, run_underlying ht, h0, show i < ls.length by omega, hi.size, add_lit]
end
end Go.Q
namespace Go.Q
section
variable {P : Program} {ops : List Oper} {Q : Exit → Act → World → Prop}
def Cl (ops : List Oper) (l : Array Bool) : Prop := ∀ i, l.getD i false = true → ∀ d ∈ depsOf ops i, l.getD d false = true
def anyE (P : Program) (ops : List Oper) (hi : Nat) (K : Act → World → Prop) (I : Array Bool → World → Prop) : Nat → Array Bool → Act → World → Prop
 | 0, l, a, w => I l w ∧ allB hi l = true ∧ K a w
 | n + 1, l, a, w => I l w ∧ allB hi l = false ∧ ∀ i ∈ Region.ready .any ops.toArray l, i < hi → okOp P ops i (anyE P ops hi K I n (l.setIfInBounds i true)) a w
theorem anyE.inv {hi : Nat} {K : Act → World → Prop} {I : Array Bool → World → Prop} : ∀ {n : Nat} {l : Array Bool} {a : Act} {w : World}, anyE P ops hi K I n l a w → I l w
 | 0, _, _, _, h => h.1
 | _ + 1, _, _, _, h => h.1
theorem Cl.set {l : Array Bool} (h : Cl ops l) {j : Nat} (hj : j ∈ Region.ready .any ops.toArray l) : Cl ops (l.setIfInBounds j true) := by
 intro i hi d hd
 by_cases e : j = i
 ·
  subst e
  obtain ⟨_, o, ho, hdone⟩ := mem_ready.1 hj
  have ho' : ops[j]? = some o := by simpa using ho
  unfold depsOf at hd
  rw [ho'] at hd
  obtain ⟨e, he, heq⟩ := List.mem_filterMap.1 hd
  split at heq
  · cases heq; exact getD_set_true (hdone e (by simpa using he) (by assumption))
  · cases heq
 · rw [getD_set_ne false (show j ≠ i from e)] at hi; exact getD_set_true (h i hi d hd)
section
variable {hi k1 : Nat} {K : Act → World → Prop} {E : World} {F G : List (List Hp)} {N n : Nat} {l : Array Bool} {r : Nat → Value} {w : World}
end
end
end Go.Q
namespace Go.Q
open Go.Proofs
set_option linter.unusedVariables false
set_option maxRecDepth 100000
attribute [local irreducible] wpList OK Code.wp
theorem own_raw {e : TypeId} {n : Nat} {v : Value} {cs : List Value} {hs : List Hp} (h : Own e 1 v n cs hs) (hn : 0 < n) : ∃ b cap cur, v = .slice (some ⟨b, 0, none⟩) n cap ∧ hs = [Hp.one b (.cells cur e (0, 0))] ∧ n ≤ cap ∧ cap ≤ maxLen ∧ cur.size = cap := by
 obtain ⟨_, ⟨_, h, _⟩ | ⟨b, cap, cur, h1, h2, h3, h4, h5, _⟩⟩ := h
 · omega
 · exact ⟨b, cap, cur, h1, h2, h3, h4, by omega⟩
theorem rep_step {c c' : Array Value} {k N : Nat} {x : Value} (hk : 1 ≤ k) (hN : k ≤ N) (hs : N ≤ c.size) (h : c.toList.take k = List.replicate k x) (q : c'.toList = if 0 < min k (N - k) then c.toList.take (0 + k) ++ ((c.toList.drop 0).take (k * 1)).take (min k (N - k) * 1) ++ c.toList.drop (0 + k + min k (N - k) * 1) else c.toList) :
  c'.toList.take (k + min k (N - k)) = List.replicate (k + min k (N - k)) x := by
 by_cases g : 0 < min k (N - k)
 ·
  rw [if_pos g, Nat.zero_add, List.drop_zero, Nat.mul_one, Nat.mul_one, h, List.take_replicate, List.replicate_append_replicate] at q
  rw [q, List.take_append_of_le_length (by rw [List.length_replicate]; omega), List.take_replicate]
  congr 1; omega
 ·
  rw [if_neg g] at q
  have : min k (N - k) = 0 := by omega
  rw [q, this, Nat.add_zero]; exact h
theorem rep_step2 {c c' : Array Value} {k N o n so m : Nat} {x : Value} (hk : 1 ≤ k) (hN : k ≤ N) (hs : N ≤ c.size) (h : c.toList.take k = List.replicate k x)
  (q : c'.toList = if 0 < min m n then c.toList.take o ++ ((c.toList.drop so).take (m * 1)).take (min m n * 1) ++ c.toList.drop (o + min m n * 1) else c.toList) (hn : n = N - k) (hm : m = k) (hso : so = 0) (ho : 0 < n → o = k) :
  c'.toList.take (k + min k (N - k)) = List.replicate (k + min k (N - k)) x := by
 subst hn hm hso
 refine rep_step hk hN hs h ?_
 rw [q]
 by_cases g : 0 < min m (N - m)
 · rw [if_pos g, if_pos g, ho (by omega), Nat.zero_add]
 · rw [if_neg g, if_neg g]
theorem rep_one {c : Array Value} {k so m : Nat} {x u : Value} (h : c.toList.take k = List.replicate k x) (hu : u ∈ (c.toList.drop so).take (m * 1)) (hso : so = 0) (hm : m = k) (hx : x.oneCell' = true) : u.oneCell' = true := by
 subst hso hm
 rw [List.drop_zero, Nat.mul_one, h] at hu
 rw [(List.mem_replicate.1 hu).2]; exact hx
theorem srepeat_c {E w : World} {R : List Hp} (hH : Has E w [R]) {v : Value} {s : Bs} (hv : Sl R 1 v 1 ([s].map sV)) {n : Nat} (hn : 0 < n ∧ n ≤ 1000000) :
  Calls Tryz.prog 86 #[v, (yi (n : Int))] w fun e w' => ∃ v' hs', e = .returned v' ∧ Own 9 1 v' (List.replicate n s).length ((List.replicate n s).map sV) hs' ∧ Has E w' [hs', R] := by
 refine zs (args := [v, (yi (n : Int))]) Tryz.func86 rfl Tryz.ntmps86 (by simp) (yq fun K1 hK1 => (zd (za (zc (.slice none 0 0) rfl (zf (ze (hK1 _ _ (yq fun K2 hK2 => (yq fun K3 hK3 => (zd (za (zb (yi (n : Int)) rfl (za (zL (a := (n : Int)) (b := 0) rfl rfl (zf (ze (hK3 _ _ (zt rfl (fun h4 => ?_) (fun h4 => ?_)))))))))))))))))))
 ·
  exfalso; omega
 ·
  refine wp_skip (ze (hK2 _ _ (yq fun K5 hK5 => (zd (za (zb v rfl (za (zQ Tryz.underlying46 rfl hv (za (o_conv (c := ((1 : Nat) : Int)) Tryz.underlying3 Tryz.underlying65 rfl (wu64 (by omega) (by omega)) (za (zb (yi (n : Int)) rfl (za (o_conv (c := (n : Int)) Tryz.underlying3 Tryz.underlying65 rfl (wu64 (by omega) (by omega)) (za (zk (vs := #[(.int .u64 ((1 : Nat) : Int)), (.int .u64 (n : Int))]) ca173 rfl (zF rfl rfl) (mul_c hH.all 1 n (by omega) (by omega) (by omega)) ?_))))))))))))))))
  rintro _ w8 ⟨rfl, hX6⟩
  refine ⟨_, rfl, ?_⟩
  have hH7 := hX6.of_all
  refine za (zb (.tuple #[(.int .u64 (0 : Int)), (.int .u64 ((1 * n : Nat) : Int))]) rfl (za (zp (v := (.int .u64 (0 : Int))) rfl rfl (za (zp (v := (.int .u64 ((1 * n : Nat) : Int))) rfl rfl (za (zc (.int .u64 (0 : Int)) rfl (za (zc (.int .u64 ((1 * n : Nat) : Int)) rfl (zf (ze (hK5 _ _ (yq fun K9 hK9 => (yq fun K10 hK10 => (zd (za (zb (.int .u64 (0 : Int)) rfl (za (o_gtr (a := (0 : Int)) (b := 0) rfl rfl (za (zb (.bool (decide (0 < (0 : Int)))) rfl ?_)))))))))))))))))))))
  by_cases h11 : 0 < (0 : Int)
  ·
   exfalso; omega
  ·
   refine zo 23 rfl (cF h11) (zb (.int .u64 ((1 * n : Nat) : Int)) rfl (zo 23 rfl (cF h11) (o_gtr (a := ((1 * n : Nat) : Int)) (b := 9223372036854775807) rfl rfl (za (zm (u := (.bool (decide (9223372036854775807 < ((1 * n : Nat) : Int))))) ((rfl : _ = _).trans (cF h11)) rfl (zf (ze (hK10 _ _ (zt rfl (fun h12 => ?_) (fun h12 => ?_))))))))))
   ·
    exfalso; omega
   ·
    refine wp_skip (ze (hK9 _ _ (yq fun K13 hK13 => (zd (za (zb (.int .u64 ((1 * n : Nat) : Int)) rfl (za (o_conv (c := ((1 * n : Nat) : Int)) Tryz.underlying65 Tryz.underlying3 rfl (w64 (by omega) (by omega)) (za (o_make Tryz.underlying46 ti9 rfl rfl (by omega) (by omega) (by omega) (by omega) hH7 fun v14 s15 w17 ho16 hH18 => ?_))))))))))
    rw [show (((1 * n : Nat) : Int)).toNat = n from by omega] at ho16
    obtain ⟨nb, ncp, nc, rfl, rfl, hnc1, hnc2, hnc3⟩ := own_raw ho16 hn.1
    simp only [maxLen] at hnc2
    refine za (zc (.slice (some ⟨nb, 0, none⟩) n ncp) rfl (zf (ze (hK13 _ _ (yq fun K19 hK19 => (zd (za (zb (.slice (some ⟨nb, 0, none⟩) n ncp) rfl (za (zb v rfl (za (o_copy (ds := ([s].map sV)) Tryz.underlying46 ti9 rfl rfl hv hH18 (zh 1 rfl) (by omega) (by intro u hu; first | (have := List.mem_of_mem_take hu; simp at this; rw [this]; rfl) | exact rep_one hcc (List.mem_of_mem_take hu) (by omega) (by omega) rfl) fun c20 w21 hz24 hc22 hH23 => (za (zc (yi ((min 1 n : Nat) : Int)) rfl (zf (ze (hK19 _ _ (yq fun K25 hK25 => (wp_block ?_)))))))))))))))))))
    have hm1 : min 1 n = 1 := by omega
    rw [hm1] at hc22
    let I27 : Nat → (Nat → Value) → World → Prop := fun n__ r__ w__ => ∃ (k : Nat) (cc : Array Value), n__ = n - k ∧ Has E w__ [[Hp.one nb (.cells cc 9 (0, 0))], R] ∧ (1 ≤ k ∧ k ≤ n) ∧ (cc.size = ncp) ∧ (cc.toList.take k = List.replicate k (S s)) ∧ r__ 0 = v ∧ r__ 1 = (yi (n : Int)) ∧ r__ 4 = (.slice none 0 0) ∧ r__ 5 = (.int .u64 (0 : Int)) ∧ r__ 6 = (.int .u64 ((1 * n : Nat) : Int)) ∧ r__ 7 = (.slice (some ⟨nb, 0, none⟩) n ncp) ∧ r__ 8 = (yi (k : Int)) ∧ r__ 10 = (.bool (decide ((n : Int) < 0))) ∧ r__ 26 = (.bool (decide (9223372036854775807 < ((1 * n : Nat) : Int))))
    refine zX I27 _ ⟨1, c20, rfl, hH23, (by omega), (by omega), (by rw [hc22]; rfl), rfl, rfl, rfl, rfl, rfl, rfl, (by show Value.int .i64 ((min 1 n : Nat) : Int) = _; rw [hm1]), rfl, rfl⟩ ?_
    rintro n_ r30 w28 ⟨k, cc, rfl, hH29, hk, hcs, hcc, e26_0, e26_1, e26_4, e26_5, e26_6, e26_7, e26_8, e26_10, e26_26⟩
    refine yq fun K31 hK31 => (yq fun K32 hK32 => (zd (za (zb (yi (k : Int)) e26_8 (za (zb (.slice (some ⟨nb, 0, none⟩) n ncp) e26_7 (za (o_len Tryz.underlying46 rfl (za (zL (a := (k : Int)) (b := (n : Int)) rfl rfl (zf (ze (hK32 _ _ (zt rfl (fun h33 => ?_) (fun h33 => ?_)))))))))))))))
    ·
     refine wp_skip (ze (hK31 _ _ (wp_block (Rest.region mixed (by kernel_rfl) ?_))))
     have hH34 : Has E { w28 with drawn := w28.drawn + 1 } [[Hp.one nb (.cells cc 9 (0, 0))], R] := Has0.drew hH29 _
     refine Rest.phaseA (fun w_ => Has E w_ []) 0 8 8 rfl (by decide) (by kernel_rfl) (zn 0 rfl (by kernel_rfl) (fun w_ h_ => zb (yi (k : Int)) e26_8 ⟨rfl, rfl⟩) (zn 1 rfl (by kernel_rfl) (fun w_ h_ => zb (.slice (some ⟨nb, 0, none⟩) n ncp) e26_7 ⟨rfl, rfl⟩) (zn 2 rfl (by kernel_rfl) (fun w_ h_ => zb (yi (k : Int)) e26_8 ⟨rfl, rfl⟩) (zn 4 rfl (by kernel_rfl) (fun w_ h_ => zb (.slice (some ⟨nb, 0, none⟩) n ncp) e26_7 ⟨rfl, rfl⟩) (zn 5 rfl (by kernel_rfl) (fun w_ h_ => zb (yi (k : Int)) e26_8 ⟨rfl, rfl⟩) ?_)))))
     have hH35 := hH34.first 0 rfl
     refine a_two 3 6 (by kernel_rfl) hH35 ?_ ?_
     ·
      have hH36 : Has E { w28 with drawn := w28.drawn + 1 } [] := hH34.first 0 rfl
      obtain ⟨o37, n38, c39, ho43, hn40, hc41, hq42⟩ := rsl_ex 0 1 (i := (k : Int)) (j := ((n : Nat) : Int)) (m := ((ncp : Nat) : Int)) (by omega) (by omega) (by omega)
      refine ok_w 3 rfl (o_rsl2 (i := (k : Int)) (j := ((n : Nat) : Int)) (m := ((ncp : Nat) : Int)) Tryz.underlying46 ti9 rfl (bounds_l (n := n) (cap := ncp) (i := (k : Int)) (by omega) (by omega)) (by omega) (by omega) (by omega) ho43 hn40 hc41 ?_)
      have hH44 := hH34.first 0 rfl
      obtain ⟨o45, n46, c47, ho51, hn48, hc49, hq50⟩ := rsl_ex 0 1 (i := 0) (j := (k : Int)) (m := ((ncp : Nat) : Int)) (by omega) (by omega) (by omega)
      refine a_w 6 rfl (by kernel_rfl) hH44 (o_rsl2 (i := 0) (j := (k : Int)) (m := ((ncp : Nat) : Int)) Tryz.underlying46 ti9 rfl (bounds_h (n := n) (cap := ncp) (j := (k : Int)) (by omega) (by omega)) (by omega) (by omega) (by omega) ho51 hn48 hc49 ?_)
      have hH52 := hH34.first 0 rfl
      refine a_w 7 rfl (by kernel_rfl) hH52 (o_copy (ds := (cc.toList.drop o45).take (n46 * 1)) Tryz.underlying46 ti9 rfl rfl (sl_raw (b := nb) (o := o45) (sz := 1) (n := n46) (cap := c47) (c := cc) (e := 9) (g := (0, 0)) (by omega) (by omega) (by omega)) hH34 sub_l (by omega) (by intro u hu; first | (have := List.mem_of_mem_take hu; simp at this; rw [this]; rfl) | exact rep_one hcc (List.mem_of_mem_take hu) (by omega) (by omega) rfl) fun c53 w54 hz57 hc55 hH56 => ?_)
      have hH58 := hH56.first 0 rfl
      refine zM (by kernel_rfl) hH58 (zO 8 rfl (by kernel_rfl) (zD (a := (k : Int)) (b := ((min n46 n38 : Nat) : Int)) rfl rfl (w64 (by omega) (by omega)) (zO 9 rfl (by kernel_rfl) (zc (yi ((k : Int) + ((min n46 n38 : Nat) : Int))) rfl (Rest.done (by kernel_rfl) (zC ?_))))))
      have rstep := rep_step2 hk.1 hk.2 (by omega) hcc hc55 (by omega) (by omega) (by omega) (by omega)
      refine ze ⟨n - (k + min k (n - k)), _, rfl, ?_, ?_⟩
      · omega
      · exact ⟨(k + min k (n - k)), c53, rfl, hH56, (by omega), (by rw [hz57]; exact hcs), (rstep), e26_0, e26_1, e26_4, e26_5, e26_6, e26_7, (show ((yi ((k : Int) + ((min n46 n38 : Nat) : Int))) : Value) = _ from by congr 1; omega), e26_10, e26_26⟩
     ·
      have hH59 : Has E { w28 with drawn := w28.drawn + 1 } [] := hH34.first 0 rfl
      obtain ⟨o60, n61, c62, ho66, hn63, hc64, hq65⟩ := rsl_ex 0 1 (i := 0) (j := (k : Int)) (m := ((ncp : Nat) : Int)) (by omega) (by omega) (by omega)
      refine ok_w 6 rfl (o_rsl2 (i := 0) (j := (k : Int)) (m := ((ncp : Nat) : Int)) Tryz.underlying46 ti9 rfl (bounds_h (n := n) (cap := ncp) (j := (k : Int)) (by omega) (by omega)) (by omega) (by omega) (by omega) ho66 hn63 hc64 ?_)
      have hH67 := hH34.first 0 rfl
      obtain ⟨o68, n69, c70, ho74, hn71, hc72, hq73⟩ := rsl_ex 0 1 (i := (k : Int)) (j := ((n : Nat) : Int)) (m := ((ncp : Nat) : Int)) (by omega) (by omega) (by omega)
      refine a_w 3 rfl (by kernel_rfl) hH67 (o_rsl2 (i := (k : Int)) (j := ((n : Nat) : Int)) (m := ((ncp : Nat) : Int)) Tryz.underlying46 ti9 rfl (bounds_l (n := n) (cap := ncp) (i := (k : Int)) (by omega) (by omega)) (by omega) (by omega) (by omega) ho74 hn71 hc72 ?_)
      have hH75 := hH34.first 0 rfl
      refine a_w 7 rfl (by kernel_rfl) hH75 (o_copy (ds := (cc.toList.drop o60).take (n61 * 1)) Tryz.underlying46 ti9 rfl rfl (sl_raw (b := nb) (o := o60) (sz := 1) (n := n61) (cap := c62) (c := cc) (e := 9) (g := (0, 0)) (by omega) (by omega) (by omega)) hH34 sub_l (by omega) (by intro u hu; first | (have := List.mem_of_mem_take hu; simp at this; rw [this]; rfl) | exact rep_one hcc (List.mem_of_mem_take hu) (by omega) (by omega) rfl) fun c76 w77 hz80 hc78 hH79 => ?_)
      have hH81 := hH79.first 0 rfl
      refine zM (by kernel_rfl) hH81 (zO 8 rfl (by kernel_rfl) (zD (a := (k : Int)) (b := ((min n61 n69 : Nat) : Int)) rfl rfl (w64 (by omega) (by omega)) (zO 9 rfl (by kernel_rfl) (zc (yi ((k : Int) + ((min n61 n69 : Nat) : Int))) rfl (Rest.done (by kernel_rfl) (zC ?_))))))
      have rstep := rep_step2 hk.1 hk.2 (by omega) hcc hc78 (by omega) (by omega) (by omega) (by omega)
      refine ze ⟨n - (k + min k (n - k)), _, rfl, ?_, ?_⟩
      · omega
      · exact ⟨(k + min k (n - k)), c76, rfl, hH79, (by omega), (by rw [hz80]; exact hcs), (rstep), e26_0, e26_1, e26_4, e26_5, e26_6, e26_7, (show ((yi ((k : Int) + ((min n61 n69 : Nat) : Int))) : Value) = _ from by congr 1; omega), e26_10, e26_26⟩
    ·
     refine wp_exit (zy (zy (x_in ((ze (hK25 _ _ (yq fun K82 hK82 => (zd (za (zb (.slice (some ⟨nb, 0, none⟩) n ncp) e26_7 (za (zc (.slice (some ⟨nb, 0, none⟩) n ncp) rfl (zf (ze (hK82 _ _ (wp_ret (zr Tryz.results86  (v := (.slice (some ⟨nb, 0, none⟩) n ncp)) rfl ?_)))))))))))))))))
     have e_ : k = n := by omega
     subst e_
     exact ⟨_, _, rfl, ⟨by simp, .inr ⟨nb, ncp, cc, by rw [List.length_replicate], rfl, by rw [List.length_replicate]; omega, by simp only [maxLen]; omega, by omega, by rw [List.length_replicate, Nat.mul_one, hcc, List.map_replicate]; rfl⟩⟩, hH29⟩
end Go.Q
namespace Go.Q
open Go.Proofs Go.Shelf
def kyl_ren : Go.Shelf.Ren := ⟨fun | 7 => 203 | 10 => 281 | n => n, fun | 23 => 148 | 26 => 3 | 3 => 9 | 28 => 282 | 0 => 0 | 27 => 281 | 33 => 156 | 4 => 4 | n => n, fun | n => n⟩
theorem kyl : Go.Proofs.SlLaysZI.n7 Tryz.prog kyl_ren := {
 mixed := by kernel_rfl
 f7 := ⟨Tryz.f203.name, by decide, Tryz.func203.trans (congrArg some (by kernel_rfl))⟩
 f10 := ⟨Tryz.f281.name, by decide, Tryz.func281.trans (congrArg some (by kernel_rfl))⟩
 t0 := Tryz.underlying0
 a0 := Tryz.isAgg0
 z0 := Tryz.sizeOf0
 v0 := Tryz.zeroValue0
 t4 := Tryz.underlying4
 a4 := Tryz.isAgg4
 z4 := Tryz.sizeOf4
 v4 := Tryz.zeroValue4
 t23 := Tryz.underlying148
 a23 := Tryz.isAgg148
 z23 := Tryz.sizeOf148
 v23 := Tryz.zeroValue148
 t26 := Tryz.underlying3
 a26 := Tryz.isAgg3
 z26 := Tryz.sizeOf3
 v26 := Tryz.zeroValue3
 t27 := Tryz.underlying281
 a27 := Tryz.isAgg281
 z27 := Tryz.sizeOf281
 v27 := Tryz.zeroValue281
 t28 := Tryz.underlying282
 a28 := Tryz.isAgg282
 z28 := Tryz.sizeOf282
 v28 := Tryz.zeroValue282
 t33 := Tryz.underlying156
 a33 := Tryz.isAgg156
 z33 := Tryz.sizeOf156
 v33 := Tryz.zeroValue156 }
def stl_ren : Go.Shelf.Ren := ⟨fun | 6 => 202 | 8 => 279 | 9 => 280 | 11 => 334 | 13 => 294 | 12 => 335 | 23 => 346 | 24 => 347 | 14 => 369 | 15 => 370 | 16 => 371 | 17 => 372 | 18 => 373 | 19 => 374 | 20 => 375 | 21 => 376 | 22 => 377 | 25 => 396 | 26 => 381 | 27 => 382 | 28 => 397 | 29 => 398 | 30 => 217 | 31 => 405 | n => n, fun | 26 => 3 | 28 => 282 | 24 => 47 | 0 => 0 | 3 => 3 | 37 => 65 | 48 => 349 | 50 => 352 | 4 => 4 | 40 => 429 | 39 => 428 | 45 => 240 | 5 => 5 | 9 => 9 | 51 => 462 | 55 => 367 | 57 => 488 | 58 => 489 | 33 => 156 | n => n, fun | n => n⟩
theorem stl : Go.Proofs.SlLaysZI.n6 Tryz.prog stl_ren := {
 mixed := by kernel_rfl
 f6 := ⟨Tryz.f202.name, by decide, Tryz.func202.trans (congrArg some (by kernel_rfl))⟩
 f8 := ⟨Tryz.f279.name, by decide, Tryz.func279.trans (congrArg some (by kernel_rfl))⟩
 f11 := ⟨Tryz.f334.name, by decide, Tryz.func334.trans (congrArg some (by kernel_rfl))⟩
 t0 := Tryz.underlying0
 a0 := Tryz.isAgg0
 z0 := Tryz.sizeOf0
 v0 := Tryz.zeroValue0
 t24 := Tryz.underlying47
 a24 := Tryz.isAgg47
 z24 := Tryz.sizeOf47
 v24 := Tryz.zeroValue47
 t26 := Tryz.underlying3
 a26 := Tryz.isAgg3
 z26 := Tryz.sizeOf3
 v26 := Tryz.zeroValue3
 t28 := Tryz.underlying282
 a28 := Tryz.isAgg282
 z28 := Tryz.sizeOf282
 v28 := Tryz.zeroValue282
 i26 := by kernel_rfl }
def srl_ren : Go.Shelf.Ren := ⟨fun | 5 => 280 | 8 => 294 | 7 => 335 | 19 => 346 | 20 => 347 | 10 => 369 | 11 => 370 | 12 => 371 | 13 => 372 | 14 => 373 | 15 => 374 | 16 => 375 | 17 => 376 | 18 => 377 | 30 => 396 | 31 => 381 | 32 => 382 | 33 => 397 | 34 => 398 | 35 => 217 | 40 => 405 | n => n, fun | 23 => 47 | 25 => 3 | 3 => 3 | 32 => 65 | 22 => 47 | 0 => 0 | 44 => 349 | 46 => 352 | 4 => 4 | 36 => 429 | 35 => 428 | 41 => 240 | 5 => 5 | 9 => 9 | 53 => 462 | 57 => 367 | 63 => 488 | 64 => 489 | n => n, fun | n => n⟩
theorem srl : Go.Proofs.SlLaysM.n5 Tryz.prog srl_ren := {
 mixed := by kernel_rfl
 f5 := ⟨Tryz.f280.name, by decide, Tryz.func280.trans (congrArg some (by kernel_rfl))⟩
 f7 := ⟨Tryz.f335.name, by decide, Tryz.func335.trans (congrArg some (by kernel_rfl))⟩
 f8 := Tryz.func294.trans (congrArg some (by kernel_rfl))
 f10 := ⟨Tryz.f369.name, by decide, Tryz.func369.trans (congrArg some (by kernel_rfl))⟩
 f11 := ⟨Tryz.f370.name, by decide, Tryz.func370.trans (congrArg some (by kernel_rfl))⟩
 f12 := ⟨Tryz.f371.name, by decide, Tryz.func371.trans (congrArg some (by kernel_rfl))⟩
 f13 := ⟨Tryz.f372.name, by decide, Tryz.func372.trans (congrArg some (by kernel_rfl))⟩
 f14 := ⟨Tryz.f373.name, by decide, Tryz.func373.trans (congrArg some (by kernel_rfl))⟩
 f15 := ⟨Tryz.f374.name, by decide, Tryz.func374.trans (congrArg some (by kernel_rfl))⟩
 f16 := ⟨Tryz.f375.name, by decide, Tryz.func375.trans (congrArg some (by kernel_rfl))⟩
 f17 := ⟨Tryz.f376.name, by decide, Tryz.func376.trans (congrArg some (by kernel_rfl))⟩
 f18 := ⟨Tryz.f377.name, by decide, Tryz.func377.trans (congrArg some (by kernel_rfl))⟩
 f19 := Tryz.func346.trans (congrArg some (by kernel_rfl))
 f20 := Tryz.func347.trans (congrArg some (by kernel_rfl))
 f30 := ⟨Tryz.f396.name, by decide, Tryz.func396.trans (congrArg some (by kernel_rfl))⟩
 f31 := Tryz.func381.trans (congrArg some (by kernel_rfl))
 f32 := Tryz.func382.trans (congrArg some (by kernel_rfl))
 f33 := ⟨Tryz.f397.name, by decide, Tryz.func397.trans (congrArg some (by kernel_rfl))⟩
 f34 := ⟨Tryz.f398.name, by decide, Tryz.func398.trans (congrArg some (by kernel_rfl))⟩
 f35 := ⟨Tryz.f217.name, by decide, Tryz.func217.trans (congrArg some (by kernel_rfl))⟩
 f40 := ⟨Tryz.f405.name, by decide, Tryz.func405.trans (congrArg some (by kernel_rfl))⟩
 t0 := Tryz.underlying0
 a0 := Tryz.isAgg0
 z0 := Tryz.sizeOf0
 v0 := Tryz.zeroValue0
 t3 := Tryz.underlying3
 a3 := Tryz.isAgg3
 z3 := Tryz.sizeOf3
 v3 := Tryz.zeroValue3
 t4 := Tryz.underlying4
 a4 := Tryz.isAgg4
 z4 := Tryz.sizeOf4
 v4 := Tryz.zeroValue4
 t5 := Tryz.underlying5
 a5 := Tryz.isAgg5
 z5 := Tryz.sizeOf5
 v5 := Tryz.zeroValue5
 t9 := Tryz.underlying9
 a9 := Tryz.isAgg9
 z9 := Tryz.sizeOf9
 v9 := Tryz.zeroValue9
 t22 := Tryz.underlying47
 a22 := Tryz.isAgg47
 z22 := Tryz.sizeOf47
 v22 := Tryz.zeroValue47
 t23 := Tryz.underlying47
 a23 := Tryz.isAgg47
 z23 := Tryz.sizeOf47
 v23 := Tryz.zeroValue47
 t25 := Tryz.underlying3
 a25 := Tryz.isAgg3
 z25 := Tryz.sizeOf3
 v25 := Tryz.zeroValue3
 t32 := Tryz.underlying65
 a32 := Tryz.isAgg65
 z32 := Tryz.sizeOf65
 v32 := Tryz.zeroValue65
 t35 := Tryz.underlying428
 a35 := Tryz.isAgg428
 z35 := Tryz.sizeOf428
 v35 := Tryz.zeroValue428
 t36 := Tryz.underlying429
 a36 := Tryz.isAgg429
 z36 := Tryz.sizeOf429
 v36 := Tryz.zeroValue429
 t41 := Tryz.underlying240
 a41 := Tryz.isAgg240
 z41 := Tryz.sizeOf240
 v41 := Tryz.zeroValue240
 t44 := Tryz.underlying349
 a44 := Tryz.isAgg349
 z44 := Tryz.sizeOf349
 v44 := Tryz.zeroValue349
 t46 := Tryz.underlying352
 a46 := Tryz.isAgg352
 z46 := Tryz.sizeOf352
 v46 := Tryz.zeroValue352
 t53 := Tryz.underlying462
 a53 := Tryz.isAgg462
 z53 := Tryz.sizeOf462
 v53 := Tryz.zeroValue462
 t57 := Tryz.underlying367
 a57 := Tryz.isAgg367
 z57 := Tryz.sizeOf367
 v57 := Tryz.zeroValue367
 t63 := Tryz.underlying488
 a63 := Tryz.isAgg488
 z63 := Tryz.sizeOf488
 v63 := Tryz.zeroValue488
 t64 := Tryz.underlying489
 a64 := Tryz.isAgg489
 z64 := Tryz.sizeOf489
 v64 := Tryz.zeroValue489 }
theorem srl_in (m : Nat) : AnyZI.SortsIn Tryz.prog stl_ren Fence.wide m :=
 ⟨fun blk off cap ss W hH hblk hsz => callsIn_wide.2 (AnyM.slices_Sort_int srl blk off cap ss W hH hblk hsz),
  fun p cap W => callsIn_wide.2 (AnyM.slices_Sort_int_none srl p cap W)⟩
theorem Has.row {E w w' : World} {ss : List (List Hp)} (H : Has E w ss) (hb : Go.RowKit.Below w.heap.size w w') {e : TypeId} {sz n : Nat} {v : Value} {cs : List Value} (hr : w'.ownsRow w.heap.size e sz v n cs) : ∃ hs, Own e sz v n cs hs ∧ Has E w' (hs :: ss) := by
 have H' := H.of_below hb
 obtain ⟨hl, ⟨rfl, h0⟩ | ⟨k, cap, cur, rfl, hk, hbk, h1, h2, h3, h4⟩⟩ := hr
 · exact ⟨[], ⟨hl, .inl ⟨rfl, h0, rfl⟩⟩, Has.nil H'⟩
 ·
  refine ⟨[Hp.one k (.cells cur e (0, 0))], ⟨hl, .inr ⟨k, cap, cur, rfl, rfl, h1, h2, h3, h4⟩⟩, ?_⟩
  refine ⟨H'.os, H'.tape, H'.output, ?_, ?_⟩
  ·
   refine List.pairwise_cons.2 ⟨fun h hh j => ?_, H'.dj⟩
   cases hj : h j with
   | none => exact .inr rfl
   | some o =>
    refine .inl ?_
    have := (Array.getElem?_eq_some_iff.1 (Has0.sub H h hh j o hj)).1
    unfold Hp.one; rw [if_neg (by omega)]
  ·
   intro h hh
   rcases List.mem_cons.1 hh with rfl | hh
   ·
    intro j o hj
    obtain ⟨rfl, rfl⟩ := Hp.one_some hj
    exact hbk
   · exact Has0.sub H' h hh
theorem mkeys_c {E w : World} {ss : List Hp} (H : Has E w [ss]) (mb : Nat) : Calls Tryz.prog 203 #[.map (some mb)] w fun e w' => ∃ b, e = .returned (.func (.func 281) #[] #[.pointer (some ⟨b, 0, none⟩)]) ∧ Has E w' [[Hp.one b (.cells #[.map (some mb)] 148 (0, 0))], ss] := by
 refine (callsIn_wide.1 (AnyZI.keys_in kyl Fence.wide 5 trivial rfl (some mb) w)).mono fun e w' ⟨he, hw⟩ => ⟨w.heap.size, he, ?_⟩
 rw [hw]
 exact H.alloc _
set_option maxRecDepth 100000 in
theorem MapV.owns {f : Bs → Value} {es : Array MapEntry} {c : Nat} {lo : List (Int × Bs)} (h : MapV iV f es c lo) {w : World} {b : Nat} (hb : w.heap[b]? = some (.map es c)) {k : TypeId} (hk : Tryz.prog.underlying k = some (.int .i64))
  (hw : ∀ p ∈ lo, (Lit.int .i64 p.1).wf = true) (hn : lo.length ≤ 1000000) : ∃ D : DataW Nat, w.ownsMap Tryz.prog k (fun _ => some (.lit (.bool true), [])) b lo.length D ∧ Maps.size D = lo.length ∧ (intKeys D).Perm (lo.map (·.1)) := by
 have hkey : ∀ x ∈ es.toList, ∃ p ∈ lo, x.key = .int .i64 p.1 := fun x hx => by
  have : x.key ∈ es.toList.map (·.key) := List.mem_map.2 ⟨x, hx, rfl⟩
  rw [h.keys] at this
  obtain ⟨p, hp, e⟩ := List.mem_map.1 this
  exact ⟨p, hp, e.symm⟩
 have hrd : ∀ x ∈ es.toList, ∃ p ∈ lo, x.key = .int .i64 p.1 ∧ Go.WideElems.rd (H := Nat) Tryz.prog k (fun _ => some (.lit (.bool true), [])) x = some (.int .i64 p.1, .lit (.bool true)) := fun x hx => by
  obtain ⟨p, hp, e⟩ := hkey x hx
  refine ⟨p, hp, e, ?_⟩
  unfold Go.WideElems.rd
  rw [e, Go.Maps.keyOf_int_mk hk (hw p hp)]; rfl
 have hsz := h.size
 refine ⟨.map ((es.toList.map (Go.WideElems.rg Tryz.prog k (fun _ => some (.lit (.bool true), [])))).foldr DataW.insert []), ⟨es, c, hb, ⟨by rw [hsz]; simp only [maxLen]; omega, h.2, fun x hx => by obtain ⟨p, _, _, e⟩ := hrd x hx; exact ⟨_, e⟩⟩, by omega, rfl⟩, ?_, ?_⟩
 ·
  show List.length _ = _
  rw [(Go.WideShapes.sorted_perm _).length_eq, List.length_map]; simpa using hsz
 ·
  show (List.map (fun p : Lit × DataW Nat => intOf p.1) _).Perm _
  refine ((Go.WideShapes.sorted_perm _).map _).trans ?_
  rw [List.map_map]
  have e1 : es.toList.map ((fun p : Lit × DataW Nat => intOf p.1) ∘ Go.WideElems.rg Tryz.prog k (fun _ => some (.lit (.bool true), []))) = es.toList.map (fun x => match x.key with | .int _ a => a | _ => 0) := List.map_congr_left fun x hx => by
   obtain ⟨p, _, e, g⟩ := hrd x hx
   show intOf (Go.WideElems.rg _ _ _ x).1 = _
   unfold Go.WideElems.rg
   rw [g, e]; rfl
  have e2 : es.toList.map (fun x => match x.key with | .int _ a => a | _ => 0) = lo.map (·.1) := by
   have := congrArg (List.map (fun v : Value => match v with | .int _ a => a | _ => (0 : Int))) h.keys
   rw [List.map_map, List.map_map] at this
   exact this
  rw [e1, e2]
theorem skeys_c {E w : World} {R : List Hp} {b mb c : Nat} {es : Array MapEntry} {lo : List (Int × Bs)} {f : Bs → Value} (H : Has E w [[Hp.one b (.cells #[.map (some mb)] 148 (0, 0))], [Hp.one mb (.map es c)], R]) (hm : MapV iV f es c lo)
  (hw : ∀ p ∈ lo, (Lit.int .i64 p.1).wf = true) (hn : lo.length ≤ 1000000) :
  Calls Tryz.prog 202 #[.func (.func 281) #[] #[.pointer (some ⟨b, 0, none⟩)]] w fun e w' => ∃ v hs, e = .returned v ∧ Own 3 1 v (keysS lo).length ((keysS lo).map iV) hs ∧ Has E w' [hs, [Hp.one b (.cells #[.map (some mb)] 148 (0, 0))], [Hp.one mb (.map es c)], R] := by
 have hb1 : w.heap[b]? = some (.cells #[.map (some mb)] 148 (0, 0)) := H.at (h := Hp.one b (.cells #[.map (some mb)] 148 (0, 0))) (by simp) (Hp.one_at _ _)
 have hb2 : w.heap[mb]? = some (.map es c) := H.at (h := Hp.one mb (.map es c)) (by simp) (Hp.one_at _ _)
 obtain ⟨D, hown, hsz, hperm⟩ := hm.owns hb2 (k := 3) Tryz.underlying3 hw hn
 have hlt : b < w.heap.size := (Array.getElem?_eq_some_iff.1 hb1).1
 have hseq : SeqGives Fence.wide 2 Tryz.prog 281 #[.pointer (some ⟨b, 0, none⟩)] encZ (fun ss => ss.Perm (intKeys D)) (Maps.size D) w :=
  AnyZI.keys_gives (ρ := kyl_ren) { kyl with } Fence.wide _ trivial rfl (by omega) b mb lo.length D w hlt (by simp [World.cell?, hb1]) hown
 have hs := AnyZI.sorted_in stl Fence.wide 5 trivial trivial trivial trivial rfl (by omega) (srl_in _) (enters_of Tryz.func280 (by kernel_rfl) rfl) 281 #[.pointer (some ⟨b, 0, none⟩)] trivial (enters_of Tryz.func281 (by kernel_rfl) rfl) _ (Maps.size D) (by simp only [maxLen]; omega) (by omega) w hseq
 refine (callsIn_wide.1 hs).mono fun e w' ⟨v, ss, he, hp, hrow, _, hbl⟩ => ?_
 obtain ⟨hs', ho, hH⟩ := H.row hbl hrow
 have e1 : ss.mergeSort (fun x y => decide (x ≤ y)) = keysS lo := mergeSort_of_perm_i (hp.trans hperm)
 have hl : ss.length = (keysS lo).length := by rw [← e1, List.length_mergeSort]
 rw [e1, hl] at ho
 exact ⟨v, hs', he, ho, hH⟩
end Go.Q
namespace Go.Q
open Go.Proofs
set_option linter.unusedVariables false
set_option maxRecDepth 100000
attribute [local irreducible] wpList OK Code.wp
theorem wf_of {n : Int} {k : Nat} (h : inS n k) (hk : k ≤ 4096) : (Lit.int .i64 n).wf = true := by
 unfold inS at h
 simp only [Lit.wf, IntKind.min, IntKind.max, IntKind.signed, IntKind.bits, Bool.and_eq_true, decide_eq_true_eq, if_true]
 omega
theorem lo_le {es : Array MapEntry} {c : Nat} {lo : List (Int × Bs)} {k : Nat} (hm : MapV iV sV es c lo) (h : LoOk lo k) (hk : k ≤ 4096) : lo.length ≤ 1000000 := by
 have := nodup_len (lo.map (·.1)) ((List.range k).map Int.ofNat) hm.nodup fun x hx => by
  obtain ⟨p, hp, rfl⟩ := List.mem_map.1 hx
  have := (h p hp).1
  unfold inS at this
  exact List.mem_map.2 ⟨p.1.toNat, List.mem_range.2 (by omega), by show ((p.1.toNat : Nat) : Int) = _; omega⟩
 rw [List.length_map, List.length_map, List.length_range] at this; omega
theorem sectors_i {E w : World} {R hL : List Hp} {pb db mb c : Nat} {p : Pw} {v : Value} {es : Array MapEntry} {la : List Bs} {lo : List (Int × Bs)} (hH : Has E w [hL, [Hp.one mb (.map es c)], (yo db #[(yp pb), v, (.map (some mb))] 150), (yP pb p), R]) (ho : Own 9 1 v la.length (la.map sV) hL) (hm : MapV iV sV es c lo) :
  Calls Tryz.prog 85 #[(yp db)] w fun e w' => e = .returned (yi ((la.length : Nat) : Int)) ∧ Has E w' [hL, [Hp.one mb (.map es c)], (yo db #[(yp pb), v, (.map (some mb))] 150), (yP pb p), R] := by
 refine zs (args := [(yp db)]) Tryz.func85 rfl Tryz.ntmps85 (by simp) (yq fun K1 hK1 => (zd (za (zc (yi 0) rfl (zf (ze (hK1 _ _ (yq fun K2 hK2 => (yq fun K3 hK3 => (zd (za (zb (yp db) rfl (za (o_pnil (p := some _) Tryz.underlying25 rfl rfl (zf (ze (hK3 _ _ (zK rfl rfl (wp_skip ?_)))))))))))))))))))
 refine ze (hK2 _ _ (yq fun K4 hK4 => (zd (za (zb (yp db) rfl (za (zl rfl (za (zg (k := 1) (fun _ => by kernel_rfl) rfl (za (zj (v := v) Tryz.underlying46 rfl rfl hH (zh 2 rfl) (CellsAt.one rfl) (za (zQ Tryz.underlying46 rfl ho.sl (za (zc (yi ((la.length : Nat) : Int)) rfl (zf (ze (hK4 _ _ (wp_ret (zr Tryz.results85  (v := (yi ((la.length : Nat) : Int))) rfl ?_))))))))))))))))))))
 exact ⟨rfl, hH⟩
theorem don_i {E w : World} {R hL : List Hp} {pb db mb c : Nat} {p : Pw} {v : Value} {es : Array MapEntry} {la : List Bs} {lo : List (Int × Bs)} (hH : Has E w [hL, [Hp.one mb (.map es c)], (yo db #[(yp pb), v, (.map (some mb))] 150), (yP pb p), R]) (ho : Own 9 1 v la.length (la.map sV) hL) (hm : MapV iV sV es c lo) :
  Calls Tryz.prog 186 #[(yp db)] w fun e w' => e = .returned (.bool (!p.off)) ∧ Has E w' [hL, [Hp.one mb (.map es c)], (yo db #[(yp pb), v, (.map (some mb))] 150), (yP pb p), R] := by
 refine zs (args := [(yp db)]) Tryz.func186 rfl Tryz.ntmps186 (by simp) (yq fun K1 hK1 => (zd (za (zc (.bool false) rfl (zf (ze (hK1 _ _ (yq fun K2 hK2 => (zd (za (zb (yp db) rfl (za (o_pnnil (p := some _) Tryz.underlying25 rfl rfl (za (zb (.bool true) rfl (zo 5 rfl rfl (zb (yp db) rfl (zo 5 rfl rfl (zl rfl (zo 5 rfl rfl (zg (k := 0) (fun _ => by kernel_rfl) rfl (zo 5 rfl rfl (zj (v := (yp pb)) Tryz.underlying97 rfl rfl hH (zh 2 rfl) (CellsAt.one rfl) ?_)))))))))))))))))))))))
 refine zo 5 rfl rfl (zk (vs := #[(yp pb)]) ca165 rfl (zI rfl) (pon_c (p := p) (hH.front 3 rfl).all1) ?_)
 rintro _ w5 ⟨rfl, hX3⟩
 refine ⟨_, rfl, ?_⟩
 have hH4 := hX3.of_all1
 refine za (zq (u := (.bool (!p.off))) rfl rfl (za (zc (.bool (!p.off)) rfl (zf (ze (hK2 _ _ (wp_ret (zr Tryz.results186  (v := (.bool (!p.off))) rfl ?_))))))))
 have hH6 := (((((hH4.front 4 rfl).front 1 rfl).front 4 rfl).front 4 rfl).front 4 rfl).first 5 rfl
 exact ⟨rfl, hH6⟩
theorem has_i {E w : World} {R hL : List Hp} {pb db mb c : Nat} {p : Pw} {v : Value} {es : Array MapEntry} {la : List Bs} {lo : List (Int × Bs)} (hH : Has E w [hL, [Hp.one mb (.map es c)], (yo db #[(yp pb), v, (.map (some mb))] 150), (yP pb p), R]) (ho : Own 9 1 v la.length (la.map sV) hL) (hm : MapV iV sV es c lo) (n : Int) :
  Calls Tryz.prog 93 #[(yp db), (yi n)] w fun e w' => e = .returned (.bool (decide (inS n la.length))) ∧ Has E w' [hL, [Hp.one mb (.map es c)], (yo db #[(yp pb), v, (.map (some mb))] 150), (yP pb p), R] := by
 refine zs (args := [(yp db), (yi n)]) Tryz.func93 rfl Tryz.ntmps93 (by simp) (yq fun K1 hK1 => (zd (za (zc (.bool false) rfl (zf (ze (hK1 _ _ (yq fun K2 hK2 => (zd (za (zb (yi n) rfl (za (o_geq (a := n) (b := 0) rfl rfl (za (zb (.bool (decide (0 ≤ n))) rfl ?_)))))))))))))))
 by_cases h3 : 0 ≤ n
 ·
  refine zo 7 rfl (cT h3) (zb (yi n) rfl (zo 7 rfl (cT h3) (zb (yp db) rfl (zo 7 rfl (cT h3) (zk (vs := #[(yp db)]) ca85 rfl (zI rfl) (sectors_i (p := p) (la := la) (lo := lo) ((((hH.front 3 rfl).front 3 rfl).front 3 rfl).front 3 rfl).all4 ho hm ) ?_)))))
  rintro _ w6 ⟨rfl, hX4⟩
  refine ⟨_, rfl, ?_⟩
  have hH5 := hX4.of_all4
  refine zo 7 rfl (cT h3) (zL (a := n) (b := ((la.length : Nat) : Int)) rfl rfl (za (zq (u := (.bool (decide (n < ((la.length : Nat) : Int))))) ((rfl : _ = _).trans (cT h3)) rfl (za (zc (.bool (decide (n < ((la.length : Nat) : Int)))) rfl (zf (ze (hK2 _ _ (wp_ret (zr Tryz.results93  (v := (.bool (decide (n < ((la.length : Nat) : Int))))) rfl ?_))))))))))
  exact ⟨congrArg Ending.returned (congrArg Value.bool (decide_eq_decide.2 ⟨fun g => ⟨h3, g⟩, fun g => g.2⟩)), hH5⟩
 ·
  refine zi (b' := false) 7 rfl (cF h3) rfl (zi (b' := false) 7 rfl (cF h3) rfl (zi (b' := false) 7 rfl (cF h3) rfl (zi (b' := false) 7 rfl (cF h3) rfl (za (zm (u := (.bool false)) ((rfl : _ = _).trans (cF h3)) rfl (za (zc (.bool false) rfl (zf (ze (hK2 _ _ (wp_ret (zr Tryz.results93  (v := (.bool false)) rfl ?_))))))))))))
  exact ⟨congrArg Ending.returned (congrArg Value.bool (decide_eq_false (fun g : inS n la.length => h3 g.1)).symm), hH⟩
theorem darm_i {E w : World} {R hL : List Hp} {pb db mb c : Nat} {p : Pw} {v : Value} {es : Array MapEntry} {la : List Bs} {lo : List (Int × Bs)} (hH : Has E w [hL, [Hp.one mb (.map es c)], (yo db #[(yp pb), v, (.map (some mb))] 150), (yP pb p), R]) (ho : Own 9 1 v la.length (la.map sV) hL) (hm : MapV iV sV es c lo) (n : Int) :
  Calls Tryz.prog 22 #[(yp db), (yi n)] w fun e w' => e = .returned (.tuple #[]) ∧ Has E w' [hL, [Hp.one mb (.map es c)], (yo db #[(yp pb), v, (.map (some mb))] 150), (yP pb (armS p n)), R] := by
 refine zs (args := [(yp db), (yi n)]) Tryz.func22 rfl Tryz.ntmps22 (by simp) (yq fun K1 hK1 => (zd (za (zb (yp db) rfl (za (o_pnnil (p := some _) Tryz.underlying25 rfl rfl (zf (ze (hK1 _ _ (zP rfl rfl (zd (za (zb (yp db) rfl (za (zl rfl (za (zg (k := 0) (fun _ => by kernel_rfl) rfl (za (zj (v := (yp pb)) Tryz.underlying97 rfl rfl hH (zh 2 rfl) (CellsAt.one rfl) (za (zb (yi n) rfl (za (zk (vs := #[(yp pb), (yi n)]) ca105 rfl (zF rfl rfl) (parm_c (p := p) (hH.front 3 rfl).all1 n) ?_)))))))))))))))))))))))
 rintro _ w4 ⟨rfl, hX2⟩
 refine ⟨_, rfl, ?_⟩
 have hH3 := hX2.of_all1
 refine zf (c_end0 Tryz.results22  ?_)
 have hH5 := (((((hH3.front 4 rfl).front 1 rfl).front 4 rfl).front 4 rfl).front 4 rfl).first 5 rfl
 exact ⟨rfl, hH5⟩
end Go.Q
namespace Go.Q
open Go.Proofs
set_option linter.unusedVariables false
set_option maxRecDepth 100000
attribute [local irreducible] wpList OK Code.wp
theorem settle_i {E w : World} {R hL : List Hp} {pb db mb c : Nat} {p : Pw} {v : Value} {es : Array MapEntry} {la : List Bs} {lo : List (Int × Bs)} (hH : Has E w [hL, [Hp.one mb (.map es c)], (yo db #[(yp pb), v, (.map (some mb))] 150), (yP pb p), R]) (ho : Own 9 1 v la.length (la.map sV) hL) (hm : MapV iV sV es c lo) (hlo : LoOk lo la.length) {vk : Value} {keep : List Int} (hk_ : Ints R vk keep) :
  Calls Tryz.prog 114 #[(yp db), vk] w fun e w' => ∃ hL' es' c', e = .returned (.tuple #[]) ∧ Own 9 1 v (settleS lo la keep).length ((settleS lo la keep).map sV) hL' ∧ MapV iV sV es' c' ([] : List (Int × Bs)) ∧ Has E w' [hL', [Hp.one mb (.map es' c')], (yo db #[(yp pb), v, (.map (some mb))] 150), (yP pb p), R] := by
 have hnk := hk_.le
 refine zs (args := [(yp db), vk]) Tryz.func114 rfl Tryz.ntmps114 (by simp) (yq fun K1 hK1 => (yq fun K2 hK2 => (zd (za (zb vk rfl (za (zQ Tryz.underlying47 rfl hk_ (za (zb (yi 0) rfl (zf (ze (hK2 _ _ (wp_block ?_)))))))))))))
 let I4 : Nat → (Nat → Value) → World → Prop := fun n__ r__ w__ => ∃ (k : Nat) (h2 : List Hp) (la2 : List Bs), n__ = keep.length - k ∧ Has E w__ [h2, [Hp.one mb (.map es c)], (yo db #[(yp pb), v, (.map (some mb))] 150), (yP pb p), R] ∧ (k ≤ keep.length) ∧ (Own 9 1 v la2.length (la2.map sV) h2) ∧ (la2 = settleS lo la (keep.take k)) ∧ r__ 0 = (yp db) ∧ r__ 1 = vk ∧ r__ 8 = vk ∧ r__ 9 = (yi ((keep.length : Nat) : Int)) ∧ r__ 10 = (yi (k : Int))
 refine zX I4 _ ⟨0, hL, la, rfl, hH, Nat.zero_le _, ho, rfl, rfl, rfl, rfl, rfl, rfl⟩ ?_
 rintro n_ r7 w5 ⟨k, h2, la2, rfl, hH6, hk, ho2, hla, e3_0, e3_1, e3_8, e3_9, e3_10⟩
 have hl2 : la2.length = la.length := (by rw [hla, settle_len])
 refine yq fun K8 hK8 => (zd (za (zL (a := (k : Int)) (b := ((keep.length : Nat) : Int)) e3_10 e3_9 (zf (ze (hK8 _ _ (yq fun K9 hK9 => (zt rfl (fun h10 => ?_) (fun h10 => ?_)))))))))
 ·
  refine wp_skip (ze (hK9 _ _ (yq fun K11 hK11 => (wp_block (yq fun K12 hK12 => (zd ?_))))))
  obtain ⟨x16, hx17⟩ : ∃ x_, keep[((k : Int)).toNat]? = some x_ := zN (by omega)
  refine za (z6 Tryz.underlying47 ti3 e3_8 hk_ e3_10 (by omega) hx17 fun b13 o14 hc15 => (za (zj (v := (yi x16)) Tryz.underlying3 rfl rfl hH6 (zh 4 rfl) hc15 (za (zc (yi x16) rfl (zf (ze (hK12 _ _ (yq fun K18 hK18 => (zd (za (zb (yp db) e3_0 (za (zl rfl (za (zg (k := 2) (fun _ => by kernel_rfl) rfl (za (zj (v := (.map (some mb))) Tryz.underlying148 rfl rfl hH6 (zh 2 rfl) (CellsAt.one rfl) (za (zb (yi x16) rfl (za (o_lookupSk (L := [Hp.one mb (.map es c)]) (k := x16) Tryz.underlying148 (key_int Tryz.underlying3) ti9 rfl rfl hH6 (zh 1 rfl) rfl hm (za (zb (.tuple #[(S ((getB lo x16).getD [])), (.bool ((getB lo x16).isSome))]) rfl (za (zp (v := (S ((getB lo x16).getD []))) rfl rfl ?_))))))))))))))))))))))))))
  refine za (zp (v := (.bool ((getB lo x16).isSome))) rfl rfl (za (zc (S ((getB lo x16).getD [])) rfl (za (zc (.bool ((getB lo x16).isSome)) rfl (zf (ze (hK18 _ _ (yq fun K19 hK19 => (zd (za (zb (.bool ((getB lo x16).isSome)) rfl (zf (ze (hK19 _ _ (z7 rfl (fun h20 => ?_) (fun h20 => ?_)))))))))))))))))
  ·
   have hin_ := hlo.get h20
   unfold inS at hin_
   refine zd (za (zb (yp db) e3_0 (za (zl rfl (za (zg (k := 1) (fun _ => by kernel_rfl) rfl (za (zj (v := v) Tryz.underlying46 rfl rfl hH6 (zh 2 rfl) (CellsAt.one rfl) (za (zb (yi x16) rfl (za (zb (S ((getB lo x16).getD [])) rfl (za (o_ownAddr Tryz.underlying46 ti9 rfl ho2 rfl (by omega) (by first | omega | (simp only [List.length_append, List.length_cons, List.length_nil, List.length_set]; omega)) fun b21 ho22 => (zB (o_ownStore (f := sV) (l := la2) (a := ((getB lo x16).getD [])) ti9 rfl rfl rfl ho22 (by first | omega | (simp only [List.length_append, List.length_cons, List.length_nil, List.length_set]; omega)) hH6 fun s23 w24 ho25 hH26 => (zf (zC (ze (hK11 _ _ (zd (za (zD (a := (k : Int)) (b := 1) e3_10 rfl (w64 (by omega) (by omega)) (za (zb (yi ((k : Int) + 1)) rfl ?_)))))))))))))))))))))))))
   refine zf (ze ⟨keep.length - (k + 1), _, rfl, ?_, ?_⟩)
   · omega
   · exact ⟨(k + 1), s23, (la2.set ((x16).toNat) ((getB lo x16).getD [])), rfl, hH26, (by omega), (ho25), (by rw [settle_yes (show keep[k]? = some _ from hx17) h20, ← hla]), e3_0, e3_1, e3_8, e3_9, rfl⟩
  ·
   refine wp_skip (zC (ze (hK11 _ _ (zd (za (zD (a := (k : Int)) (b := 1) e3_10 rfl (w64 (by omega) (by omega)) (za (zb (yi ((k : Int) + 1)) rfl (zf (ze ⟨keep.length - (k + 1), _, rfl, ?_, ?_⟩))))))))))
   · omega
   · exact ⟨(k + 1), h2, la2, rfl, hH6, (by omega), (ho2), (by rw [settle_no (show keep[k]? = some _ from hx17) h20, ← hla]), e3_0, e3_1, e3_8, e3_9, rfl⟩
 ·
  refine wp_exit (zy (zy (x_in ((ze (hK1 _ _ (zd (za (zb (yp db) e3_0 (za (zl rfl (za (zg (k := 2) (fun _ => by kernel_rfl) rfl (za (zj (v := (.map (some mb))) Tryz.underlying148 rfl rfl hH6 (zh 2 rfl) (CellsAt.one rfl) (zB (o_clearMap (gk := iV) (f := sV) Tryz.underlying148 rfl (hH6.front 1 rfl) hm fun es27 c28 w29 he30 hH31 => (zf (c_end0 Tryz.results114  ?_)))))))))))))))))))
  have hH32 := (((((hH31.front 4 rfl).front 4 rfl).front 4 rfl).front 3 rfl).front 4 rfl).first 5 rfl
  have e_ : k = keep.length := by omega
  rw [e_, List.take_length] at hla
  exact ⟨_, _, _, rfl, by rw [← hla]; exact ho2, he30, hH32⟩
end Go.Q
namespace Go.Q
open Go.Proofs
set_option linter.unusedVariables false
set_option maxRecDepth 100000
attribute [local irreducible] wpList OK Code.wp
theorem loose_i {E w : World} {R hL : List Hp} {pb db mb c : Nat} {p : Pw} {v : Value} {es : Array MapEntry} {la : List Bs} {lo : List (Int × Bs)} (hH : Has E w [hL, [Hp.one mb (.map es c)], (yo db #[(yp pb), v, (.map (some mb))] 150), (yP pb p), R]) (ho : Own 9 1 v la.length (la.map sV) hL) (hm : MapV iV sV es c lo) (hlo : LoOk lo la.length) (hla : la.length ≤ 4096) :
  Calls Tryz.prog 112 #[(yp db)] w fun e w' => ∃ v' hs', e = .returned v' ∧ Own 3 1 v' (keysS lo).length ((keysS lo).map iV) hs' ∧ Has E w' [hs', hL, [Hp.one mb (.map es c)], (yo db #[(yp pb), v, (.map (some mb))] 150), (yP pb p), R] := by
 refine zs (args := [(yp db)]) Tryz.func112 rfl Tryz.ntmps112 (by simp) (yq fun K1 hK1 => (zd (za (zc (.slice none 0 0) rfl (zf (ze (hK1 _ _ (yq fun K2 hK2 => (yq fun K3 hK3 => (zd (za (zb (yp db) rfl (za (o_pnil (p := some _) Tryz.underlying25 rfl rfl (zf (ze (hK3 _ _ (zK rfl rfl (wp_skip ?_)))))))))))))))))))
 refine ze (hK2 _ _ (yq fun K4 hK4 => (zd (za (zb (yp db) rfl (za (zl rfl (za (zg (k := 2) (fun _ => by kernel_rfl) rfl (za (zj (v := (.map (some mb))) Tryz.underlying148 rfl rfl hH (zh 2 rfl) (CellsAt.one rfl) (za (zk (vs := #[(.map (some mb))]) ca203 rfl (zI rfl) (mkeys_c hH.all mb) ?_)))))))))))))
 rintro _ w9 ⟨b5, rfl, hX7⟩
 refine ⟨_, rfl, ?_⟩
 have hH8 := hX7.of_all1
 refine za (zk (vs := #[(.func (.func 281) #[] #[.pointer (some ⟨b5, 0, none⟩)])]) ca202 rfl (zI rfl) (skeys_c ((hH8.front 2 rfl).front 1 rfl).all2 hm (fun q hq => wf_of (hlo q hq).1 (by omega)) (lo_le hm hlo (by omega))) ?_)
 rintro _ w15 ⟨v10, s11, rfl, ho12, hX13⟩
 refine ⟨_, rfl, ?_⟩
 have hH14 := hX13.of_all3
 refine za (zc v10 rfl (zf (ze (hK4 _ _ (wp_ret (zr Tryz.results112  (v := v10) rfl ?_))))))
 have hH16 : Has E w15 [s11, hL, [Hp.one mb (.map es c)], (yo db #[(yp pb), v, (.map (some mb))] 150), (yP pb p), R] := Has.pick hH14 [0, 2, 1, 1, 1, 1] (by kernel_rfl)
 exact ⟨_, _, rfl, ho12, hH16⟩
end Go.Q
namespace Go.Q
open Go.Proofs
set_option linter.unusedVariables false
set_option maxRecDepth 100000
attribute [local irreducible] wpList OK Code.wp
theorem write_i {E w : World} {R hL : List Hp} {pb db mb c : Nat} {p : Pw} {v : Value} {es : Array MapEntry} {la : List Bs} {lo : List (Int × Bs)} (hH : Has E w [hL, [Hp.one mb (.map es c)], (yo db #[(yp pb), v, (.map (some mb))] 150), (yP pb p), R]) (ho : Own 9 1 v la.length (la.map sV) hL) (hm : MapV iV sV es c lo) (hp : PwOk p) (hla : la.length ≤ 4096) (n : Int) {vd : Value} {l : List Bs} (hd : Sl R 1 vd l.length (l.map sV)) (hn : l.length ≤ 1000000) (hl : l.flatten.length ≤ 1000000000) :
  Calls Tryz.prog 122 #[(yp db), (yi n), vd] w fun e w' => ∃ es' c', e = .returned (yi (writeE p la.length n l.flatten)) ∧ MapV iV sV es' c' (writeS p la.length lo n l.flatten) ∧ Has E w' [hL, [Hp.one mb (.map es' c')], (yo db #[(yp pb), v, (.map (some mb))] 150), (yP pb (useS p)), R] := by
 have hn_ := hd.le
 refine zs (args := [(yp db), (yi n), vd]) Tryz.func122 rfl Tryz.ntmps122 (by simp) (yq fun K1 hK1 => (zd (za (zc (yi 0) rfl (zf (ze (hK1 _ _ (yq fun K2 hK2 => (yq fun K3 hK3 => (zd (za (zb (yp db) rfl (za (o_pnil (p := some _) Tryz.underlying25 rfl rfl (zf (ze (hK3 _ _ (zK rfl rfl (wp_skip ?_)))))))))))))))))))
 refine ze (hK2 _ _ (yq fun K4 hK4 => (yq fun K5 hK5 => (zd (za (zb (yp db) rfl (za (zl rfl (za (zg (k := 0) (fun _ => by kernel_rfl) rfl (za (zj (v := (yp pb)) Tryz.underlying97 rfl rfl hH (zh 2 rfl) (CellsAt.one rfl) (za (zk (vs := #[(yp pb)]) ca124 rfl (zI rfl) (use_c (p := p) (hH.front 3 rfl).all1 hp) ?_))))))))))))))
 rintro _ w8 ⟨rfl, hX6⟩
 refine ⟨_, rfl, ?_⟩
 have hH7 : Has E w8 [(yP pb (useS p)), hL, [Hp.one mb (.map es c)], (yo db #[(yp pb), v, (.map (some mb))] 150), R] := hX6.of_all1
 refine za (o_not rfl (zf (ze (hK5 _ _ (z7 rfl (fun h9 => ?_) (fun h9 => ?_))))))
 ·
  have h9_n : (useB p) = false := by first | simpa using h9 | exact Bool.of_not_eq_true (fun g_ => by rw [g_] at h9; cases h9)
  refine yq fun K10 hK10 => (zd (za (zc (yi 6) rfl (zf (ze (hK10 _ _ (wp_ret (zx (zr Tryz.results122  (v := (yi 6)) rfl ?_)))))))))
  have hH11 := (((((hH7.front 4 rfl).front 1 rfl).front 4 rfl).front 4 rfl).front 4 rfl).first 5 rfl
  exact ⟨_, _, by rw [writeE, if_neg (ne_true_of_eq_false h9_n)], by rw [writeS, if_neg (fun g => (ne_true_of_eq_false h9_n) g.1)]; exact hm, hH11⟩
 ·
  have h9_n : (useB p) = true := by first | simpa using h9 | exact Bool.of_not_eq_false (fun g_ => by rw [g_] at h9; cases h9)
  refine wp_skip (ze (hK4 _ _ (yq fun K12 hK12 => (zd (za (zb vd rfl (za (zk (vs := #[vd]) ca92 rfl (zI rfl) (filled_c hH7.all (l := l) (hd.mono (zh 4 rfl)) (by omega) (by omega)) ?_))))))))
  rintro _ w15 ⟨rfl, hX13⟩
  refine ⟨_, rfl, ?_⟩
  have hH14 := hX13.of_all
  refine za (zb (.tuple #[(S (if l.flatten.length ≤ 64 then fillS l.flatten else [])), (.bool (decide (l.flatten.length ≤ 64)))]) rfl (za (zp (v := (S (if l.flatten.length ≤ 64 then fillS l.flatten else []))) rfl rfl (za (zp (v := (.bool (decide (l.flatten.length ≤ 64)))) rfl rfl (za (zc (S (if l.flatten.length ≤ 64 then fillS l.flatten else [])) rfl (za (zc (.bool (decide (l.flatten.length ≤ 64))) rfl (zf (ze (hK12 _ _ (yq fun K16 hK16 => (yq fun K17 hK17 => (zd (za (zb (.bool (decide (l.flatten.length ≤ 64))) rfl (za (o_not2 (b := decide (l.flatten.length ≤ 64)) (b' := decide (¬ (l.flatten.length ≤ 64))) rfl not_dec (za (zb (.bool (decide (¬ (l.flatten.length ≤ 64)))) rfl ?_)))))))))))))))))))))
  by_cases h18 : ¬ (l.flatten.length ≤ 64)
  ·
   refine zi (b' := true) 24 rfl (cT h18) rfl (zi (b' := true) 24 rfl (cT h18) rfl (zi (b' := true) 24 rfl (cT h18) rfl (zi (b' := true) 24 rfl (cT h18) rfl (za (zq (u := (.bool true)) ((rfl : _ = _).trans (cT h18)) rfl (zf (ze (hK17 _ _ (zP rfl rfl (yq fun K19 hK19 => (zd (za (zc (yi 1) rfl (zf (ze (hK19 _ _ (wp_ret (zx (zr Tryz.results122  (v := (yi 1)) rfl ?_)))))))))))))))))))
   have hH20 := (((((hH14.front 4 rfl).front 1 rfl).front 4 rfl).front 4 rfl).front 4 rfl).first 5 rfl
   exact ⟨_, _, by rw [writeE, if_pos h9_n, if_neg (fun g => h18 g.1)], by rw [writeS, if_neg (fun g => h18 g.2.1)]; exact hm, hH20⟩
  ·
   refine zo 24 rfl (cF h18) (zb (yp db) rfl (zo 24 rfl (cF h18) (zb (yi n) rfl (zo 24 rfl (cF h18) (zk (vs := #[(yp db), (yi n)]) ca93 rfl (zF rfl rfl) (has_i (p := (useS p)) (la := la) (lo := lo) (((hH14.front 3 rfl).front 3 rfl).front 3 rfl).all4 ho hm n) ?_)))))
   rintro _ w23 ⟨rfl, hX21⟩
   refine ⟨_, rfl, ?_⟩
   have hH22 : Has E w23 [hL, [Hp.one mb (.map es c)], (yo db #[(yp pb), v, (.map (some mb))] 150), (yP pb (useS p)), R] := hX21.of_all4
   refine zo 24 rfl (cF h18) (o_not2 (b := decide (inS n la.length)) (b' := decide (¬ (inS n la.length))) rfl not_dec (za (zm (u := (.bool (decide (¬ (inS n la.length))))) ((rfl : _ = _).trans (cF h18)) rfl (zf (ze (hK17 _ _ (zt rfl (fun h24 => ?_) (fun h24 => ?_))))))))
   ·
    refine yq fun K25 hK25 => (zd (za (zc (yi 1) rfl (zf (ze (hK25 _ _ (wp_ret (zx (zr Tryz.results122  (v := (yi 1)) rfl ?_)))))))))
    exact ⟨_, _, by rw [writeE, if_pos h9_n, if_neg (fun g => h24 g.2)], by rw [writeS, if_neg (fun g => h24 g.2.2)]; exact hm, hH22⟩
   ·
    refine wp_skip (ze (hK16 _ _ (yq fun K26 hK26 => (zd (za (zb (yp db) rfl (za (zl rfl (za (zg (k := 2) (fun _ => by kernel_rfl) rfl (za (zj (v := (.map (some mb))) Tryz.underlying148 rfl rfl hH22 (zh 2 rfl) (CellsAt.one rfl) (za (zb (yi n) rfl (za (zb (S (if l.flatten.length ≤ 64 then fillS l.flatten else [])) rfl (zB (o_mapUpdateB (gk := iV) (f := sV) (k := n) (v := (if l.flatten.length ≤ 64 then fillS l.flatten else [])) Tryz.underlying148 (key_int Tryz.underlying3) rfl rfl rfl (hH22.front 1 rfl) hm fun es27 c28 w29 he30 hH31 => (zf (ze (hK26 _ _ (yq fun K32 hK32 => (zd ?_)))))))))))))))))))))))
    refine za (zc (yi 0) rfl (zf (ze (hK32 _ _ (wp_ret (zr Tryz.results122  (v := (yi 0)) rfl ?_))))))
    have hH33 := (((((hH31.front 4 rfl).front 4 rfl).front 4 rfl).front 3 rfl).front 4 rfl).first 5 rfl
    exact ⟨_, _, by rw [writeE, if_pos h9_n, if_pos ⟨(Classical.not_not.1 h18), (Classical.not_not.1 h24)⟩], by rw [writeS, if_pos ⟨h9_n, (Classical.not_not.1 h18), (Classical.not_not.1 h24)⟩]; rw [if_pos (Classical.not_not.1 h18)] at he30; exact he30, hH33⟩
theorem sync_i {E w : World} {R hL : List Hp} {pb db mb c : Nat} {p : Pw} {v : Value} {es : Array MapEntry} {la : List Bs} {lo : List (Int × Bs)} (hH : Has E w [hL, [Hp.one mb (.map es c)], (yo db #[(yp pb), v, (.map (some mb))] 150), (yP pb p), R]) (ho : Own 9 1 v la.length (la.map sV) hL) (hm : MapV iV sV es c lo) (hp : PwOk p) (hla : la.length ≤ 4096) (hlo : LoOk lo la.length) :
  Calls Tryz.prog 32 #[(yp db)] w fun e w' => ∃ hL' es' c', e = .returned (yi (syncE p)) ∧ Own 9 1 v (syncA p la lo).length ((syncA p la lo).map sV) hL' ∧ MapV iV sV es' c' (syncO p lo) ∧ Has E w' [hL', [Hp.one mb (.map es' c')], (yo db #[(yp pb), v, (.map (some mb))] 150), (yP pb (useS p)), R] := by
 refine zs (args := [(yp db)]) Tryz.func32 rfl Tryz.ntmps32 (by simp) (yq fun K1 hK1 => (zd (za (zc (yi 0) rfl (zf (ze (hK1 _ _ (yq fun K2 hK2 => (yq fun K3 hK3 => (zd (za (zb (yp db) rfl (za (o_pnil (p := some _) Tryz.underlying25 rfl rfl (zf (ze (hK3 _ _ (zK rfl rfl (wp_skip ?_)))))))))))))))))))
 refine ze (hK2 _ _ (yq fun K4 hK4 => (yq fun K5 hK5 => (zd (za (zb (yp db) rfl (za (zl rfl (za (zg (k := 0) (fun _ => by kernel_rfl) rfl (za (zj (v := (yp pb)) Tryz.underlying97 rfl rfl hH (zh 2 rfl) (CellsAt.one rfl) (za (zk (vs := #[(yp pb)]) ca124 rfl (zI rfl) (use_c (p := p) (hH.front 3 rfl).all1 hp) ?_))))))))))))))
 rintro _ w8 ⟨rfl, hX6⟩
 refine ⟨_, rfl, ?_⟩
 have hH7 : Has E w8 [(yP pb (useS p)), hL, [Hp.one mb (.map es c)], (yo db #[(yp pb), v, (.map (some mb))] 150), R] := hX6.of_all1
 refine za (o_not rfl (zf (ze (hK5 _ _ (z7 rfl (fun h9 => ?_) (fun h9 => ?_))))))
 ·
  have h9_n : (useB p) = false := by first | simpa using h9 | exact Bool.of_not_eq_true (fun g_ => by rw [g_] at h9; cases h9)
  refine yq fun K10 hK10 => (zd (za (zc (yi 6) rfl (zf (ze (hK10 _ _ (wp_ret (zx (zr Tryz.results32  (v := (yi 6)) rfl ?_)))))))))
  have hH11 := (((((hH7.front 4 rfl).front 1 rfl).front 4 rfl).front 4 rfl).front 4 rfl).first 5 rfl
  exact ⟨_, _, _, by rw [syncE, if_neg (ne_true_of_eq_false h9_n)], by rw [syncA, if_neg (ne_true_of_eq_false h9_n)]; exact ho, by rw [syncO, if_neg (ne_true_of_eq_false h9_n)]; exact hm, hH11⟩
 ·
  have h9_n : (useB p) = true := by first | simpa using h9 | exact Bool.of_not_eq_false (fun g_ => by rw [g_] at h9; cases h9)
  refine wp_skip (ze (hK4 _ _ (yq fun K12 hK12 => (zd (za (zb (yp db) rfl (za (zb (yp db) rfl (za (zk (vs := #[(yp db)]) ca112 rfl (zI rfl) (loose_i (p := (useS p)) (la := la) (lo := lo) (((hH7.front 3 rfl).front 3 rfl).front 3 rfl).all4 ho hm hlo (by omega)) ?_))))))))))
  rintro _ w18 ⟨v13, s14, rfl, ho15, hX16⟩
  refine ⟨_, rfl, ?_⟩
  have hH17 := hX16.of_all5
  refine za (zk (vs := #[(yp db), v13]) ca114 rfl (zF rfl rfl) (settle_i (p := (useS p)) (la := la) (lo := lo) ((((hH17.front 4 rfl).front 4 rfl).front 4 rfl).front 4 rfl).all4 ho hm hlo (keep := (keysS lo)) (ho15.sl.mono (zh 0 rfl))) ?_)
  rintro _ w26 ⟨s19, es21, c22, rfl, ho20, hm23, hX24⟩
  refine ⟨_, rfl, ?_⟩
  have hH25 := hX24.of_all4
  refine zf (ze (hK12 _ _ (yq fun K27 hK27 => (zd (za (zc (yi 0) rfl (zf (ze (hK27 _ _ (wp_ret (zr Tryz.results32  (v := (yi 0)) rfl ?_)))))))))))
  have hH28 := (((((hH25.front 5 rfl).front 4 rfl).front 4 rfl).front 4 rfl).front 4 rfl).first 5 rfl
  exact ⟨_, _, _, by rw [syncE, if_pos h9_n], by rw [syncA, if_pos h9_n]; exact ho20, by rw [syncO, if_pos h9_n]; exact hm23, hH28⟩
theorem read_i {E w : World} {R hL : List Hp} {pb db mb c : Nat} {p : Pw} {v : Value} {es : Array MapEntry} {la : List Bs} {lo : List (Int × Bs)} (hH : Has E w [hL, [Hp.one mb (.map es c)], (yo db #[(yp pb), v, (.map (some mb))] 150), (yP pb p), R]) (ho : Own 9 1 v la.length (la.map sV) hL) (hm : MapV iV sV es c lo) (n : Int) :
  Calls Tryz.prog 188 #[(yp db), (yi n)] w fun e w' => e = .returned (.tuple #[S (readS p la lo n), .int .i64 (readE p la n)]) ∧ Has E w' [hL, [Hp.one mb (.map es c)], (yo db #[(yp pb), v, (.map (some mb))] 150), (yP pb p), R] := by
 refine zs (args := [(yp db), (yi n)]) Tryz.func188 rfl Tryz.ntmps188 (by simp) (yq fun K1 hK1 => (zd (za (zc (S ([] : List UInt8)) rfl (za (zc (yi 0) rfl (zf (ze (hK1 _ _ (yq fun K2 hK2 => (wp_block (yq fun K3 hK3 => (zd (za (zb (yp db) rfl (za (o_pnil (p := some _) Tryz.underlying25 rfl rfl (za (zc (.bool false) rfl (zf ?_))))))))))))))))))))
 refine ze (hK3 _ _ (zK rfl rfl (yq fun K4 hK4 => (zd (za (zb (yp db) rfl (za (zk (vs := #[(yp db)]) ca186 rfl (zI rfl) (don_i (p := p) (la := la) (lo := lo) ((((hH.front 3 rfl).front 3 rfl).front 3 rfl).front 3 rfl).all4 ho hm ) ?_))))))))
 rintro _ w7 ⟨rfl, hX5⟩
 refine ⟨_, rfl, ?_⟩
 have hH6 : Has E w7 [hL, [Hp.one mb (.map es c)], (yo db #[(yp pb), v, (.map (some mb))] 150), (yP pb p), R] := hX5.of_all4
 refine za (o_not rfl (za (zc (.bool (!(!p.off))) rfl (zf (ze (hK4 _ _ (z7 rfl (fun h8 => ?_) (fun h8 => ?_))))))))
 ·
  have h8_n : (!p.off) = false := by first | simpa using h8 | exact Bool.of_not_eq_true (fun g_ => by rw [g_] at h8; cases h8)
  have h8_n_n : p.off = true := by first | simpa using h8_n | exact Bool.of_not_eq_false (fun g_ => by rw [g_] at h8_n; cases h8_n)
  refine yq fun K9 hK9 => (zd (za (zc (S ([] : List UInt8)) rfl (za (zc (yi 6) rfl (zf (ze (hK9 _ _ (wp_ret (zZ (zx (ya Tryz.results188  (v := (S ([] : List UInt8))) rfl (x := (yi 6)) rfl ?_))))))))))))
  have e1_ : readS p la lo n = ([] : List UInt8) := by rw [readS, if_pos h8_n_n]
  have e2_ : readE p la n = 6 := by rw [readE, if_pos h8_n_n]
  exact ⟨by rw [e1_, e2_], hH6⟩
 ·
  have h8_n : (!p.off) = true := by first | simpa using h8 | exact Bool.of_not_eq_false (fun g_ => by rw [g_] at h8; cases h8)
  have h8_n_n : p.off = false := by first | simpa using h8_n | exact Bool.of_not_eq_true (fun g_ => by rw [g_] at h8_n; cases h8_n)
  refine yq fun K10 hK10 => (zd (za (zb (yp db) rfl (za (zb (yi n) rfl (za (zk (vs := #[(yp db), (yi n)]) ca93 rfl (zF rfl rfl) (has_i (p := p) (la := la) (lo := lo) ((((hH6.front 3 rfl).front 3 rfl).front 3 rfl).front 3 rfl).all4 ho hm n) ?_)))))))
  rintro _ w13 ⟨rfl, hX11⟩
  refine ⟨_, rfl, ?_⟩
  have hH12 : Has E w13 [hL, [Hp.one mb (.map es c)], (yo db #[(yp pb), v, (.map (some mb))] 150), (yP pb p), R] := hX11.of_all4
  refine za (o_not2 (b := decide (inS n la.length)) (b' := decide (¬ (inS n la.length))) rfl not_dec (za (zc (.bool (decide (¬ (inS n la.length)))) rfl (zf (ze (hK10 _ _ (zt rfl (fun h14 => ?_) (fun h14 => ?_))))))))
  ·
   refine yq fun K15 hK15 => (zd (za (zc (S ([] : List UInt8)) rfl (za (zc (yi 1) rfl (zf (ze (hK15 _ _ (wp_ret (zZ (zx (ya Tryz.results188  (v := (S ([] : List UInt8))) rfl (x := (yi 1)) rfl ?_))))))))))))
   have e1_ : readS p la lo n = ([] : List UInt8) := by rw [readS, if_neg (ne_true_of_eq_false h8_n_n), if_neg h14]
   have e2_ : readE p la n = 1 := by rw [readE, if_neg (ne_true_of_eq_false h8_n_n), if_neg h14]
   exact ⟨by rw [e1_, e2_], hH12⟩
  ·
   have hin_ : inS n la.length := Classical.not_not.1 h14
   unfold inS at hin_
   refine wp_skip (zC (ze (hK2 _ _ (yq fun K16 hK16 => (yq fun K17 hK17 => (zd (za (zb (yp db) rfl (za (zl rfl (za (zg (k := 2) (fun _ => by kernel_rfl) rfl (za (zj (v := (.map (some mb))) Tryz.underlying148 rfl rfl hH12 (zh 2 rfl) (CellsAt.one rfl) (za (zb (yi n) rfl (za (o_lookupSk (L := [Hp.one mb (.map es c)]) (k := n) Tryz.underlying148 (key_int Tryz.underlying3) ti9 rfl rfl hH12 (zh 1 rfl) rfl hm (za (zb (.tuple #[(S ((getB lo n).getD [])), (.bool ((getB lo n).isSome))]) rfl (za (zp (v := (S ((getB lo n).getD []))) rfl rfl (za (zp (v := (.bool ((getB lo n).isSome))) rfl rfl ?_))))))))))))))))))))))))
   refine za (zc (S ((getB lo n).getD [])) rfl (za (zc (.bool ((getB lo n).isSome)) rfl (zf (ze (hK17 _ _ (yq fun K18 hK18 => (zd (za (zb (.bool ((getB lo n).isSome)) rfl (zf (ze (hK18 _ _ (z7 rfl (fun h19 => ?_) (fun h19 => ?_)))))))))))))))
   ·
    refine yq fun K20 hK20 => (zd (za (zb (S ((getB lo n).getD [])) rfl (za (zc (S ((getB lo n).getD [])) rfl (za (zc (yi 0) rfl (zf (ze (hK20 _ _ (wp_ret (zx (ya Tryz.results188  (v := (S ((getB lo n).getD []))) rfl (x := (yi 0)) rfl ?_)))))))))))))
    have e1_ : readS p la lo n = ((getB lo n).getD []) := by rw [readS, if_neg (ne_true_of_eq_false h8_n_n), if_pos (Classical.not_not.1 h14), if_pos h19]
    have e2_ : readE p la n = 0 := by rw [readE, if_neg (ne_true_of_eq_false h8_n_n), if_pos (Classical.not_not.1 h14)]
    exact ⟨by rw [e1_, e2_], hH12⟩
   ·
    refine wp_skip (ze (hK16 _ _ (yq fun K21 hK21 => (zd (za (zb (yp db) rfl (za (zl rfl (za (zg (k := 1) (fun _ => by kernel_rfl) rfl (za (zj (v := v) Tryz.underlying46 rfl rfl hH12 (zh 2 rfl) (CellsAt.one rfl) (za (zb (yi n) rfl ?_))))))))))))))
    obtain ⟨x25, hx26⟩ : ∃ x_, la[(n).toNat]? = some x_ := zN (by omega)
    refine za (z6 Tryz.underlying46 ti9 rfl ho.sl rfl (by omega) hx26 fun b22 o23 hc24 => (za (zj (v := (S x25)) Tryz.underlying9 rfl rfl hH12 (zh 0 rfl) hc24 (za (zc (S x25) rfl (za (zc (yi 0) rfl (zf (ze (hK21 _ _ (wp_ret (ya Tryz.results188  (v := (S x25)) rfl (x := (yi 0)) rfl ?_))))))))))))
    have e1_ : readS p la lo n = x25 := by rw [readS, if_neg (ne_true_of_eq_false h8_n_n), if_pos (Classical.not_not.1 h14), if_neg (ne_true_of_eq_false h19)]; rw [hx26]; rfl
    have e2_ : readE p la n = 0 := by rw [readE, if_neg (ne_true_of_eq_false h8_n_n), if_pos (Classical.not_not.1 h14)]
    exact ⟨by rw [e1_, e2_], hH12⟩
theorem lasts_i {E w : World} {R hL : List Hp} {pb db mb c : Nat} {p : Pw} {v : Value} {es : Array MapEntry} {la : List Bs} {lo : List (Int × Bs)} (hH : Has E w [hL, [Hp.one mb (.map es c)], (yo db #[(yp pb), v, (.map (some mb))] 150), (yP pb p), R]) (ho : Own 9 1 v la.length (la.map sV) hL) (hm : MapV iV sV es c lo) (n : Int) :
  Calls Tryz.prog 200 #[(yp db), (yi n)] w fun e w' => e = .returned (S (lastsS la n)) ∧ Has E w' [hL, [Hp.one mb (.map es c)], (yo db #[(yp pb), v, (.map (some mb))] 150), (yP pb p), R] := by
 refine zs (args := [(yp db), (yi n)]) Tryz.func200 rfl Tryz.ntmps200 (by simp) (yq fun K1 hK1 => (zd (za (zc (S ([] : List UInt8)) rfl (zf (ze (hK1 _ _ (yq fun K2 hK2 => (yq fun K3 hK3 => (zd (za (zb (yp db) rfl (za (zb (yi n) rfl (za (zk (vs := #[(yp db), (yi n)]) ca93 rfl (zF rfl rfl) (has_i (p := p) (la := la) (lo := lo) ((((hH.front 3 rfl).front 3 rfl).front 3 rfl).front 3 rfl).all4 ho hm n) ?_))))))))))))))))
 rintro _ w6 ⟨rfl, hX4⟩
 refine ⟨_, rfl, ?_⟩
 have hH5 : Has E w6 [hL, [Hp.one mb (.map es c)], (yo db #[(yp pb), v, (.map (some mb))] 150), (yP pb p), R] := hX4.of_all4
 refine za (o_not2 (b := decide (inS n la.length)) (b' := decide (¬ (inS n la.length))) rfl not_dec (zf (ze (hK3 _ _ (zt rfl (fun h7 => ?_) (fun h7 => ?_))))))
 ·
  refine yq fun K8 hK8 => (zd (za (zc (S ([] : List UInt8)) rfl (zf (ze (hK8 _ _ (wp_ret (zx (zr Tryz.results200  (v := (S ([] : List UInt8))) rfl ?_)))))))))
  have e1_ : lastsS la n = ([] : List UInt8) := by rw [lastsS, if_neg h7]
  exact ⟨by rw [e1_], hH5⟩
 ·
  have hin_ : inS n la.length := Classical.not_not.1 h7
  unfold inS at hin_
  refine wp_skip (ze (hK2 _ _ (yq fun K9 hK9 => (zd (za (zb (yp db) rfl (za (zl rfl (za (zg (k := 1) (fun _ => by kernel_rfl) rfl (za (zj (v := v) Tryz.underlying46 rfl rfl hH5 (zh 2 rfl) (CellsAt.one rfl) (za (zb (yi n) rfl ?_))))))))))))))
  obtain ⟨x13, hx14⟩ : ∃ x_, la[(n).toNat]? = some x_ := zN (by omega)
  refine za (z6 Tryz.underlying46 ti9 rfl ho.sl rfl (by omega) hx14 fun b10 o11 hc12 => (za (zj (v := (S x13)) Tryz.underlying9 rfl rfl hH5 (zh 0 rfl) hc12 (za (zc (S x13) rfl (zf (ze (hK9 _ _ (wp_ret (zr Tryz.results200  (v := (S x13)) rfl ?_))))))))))
  have e1_ : lastsS la n = x13 := by rw [lastsS, if_pos (Classical.not_not.1 h7)]; rw [hx14]; rfl
  exact ⟨by rw [e1_], hH5⟩
theorem crash_i {E w : World} {R hL : List Hp} {pb db mb c : Nat} {p : Pw} {v : Value} {es : Array MapEntry} {la : List Bs} {lo : List (Int × Bs)} (hH : Has E w [hL, [Hp.one mb (.map es c)], (yo db #[(yp pb), v, (.map (some mb))] 150), (yP pb p), R]) (ho : Own 9 1 v la.length (la.map sV) hL) (hm : MapV iV sV es c lo) (hlo : LoOk lo la.length) {vk : Value} {keep : List Int} (hk_ : Ints R vk keep) :
  Calls Tryz.prog 26 #[(yp db), vk] w fun e w' => ∃ hL' es' c', e = .returned (.tuple #[]) ∧ Own 9 1 v (settleS lo la keep).length ((settleS lo la keep).map sV) hL' ∧ MapV iV sV es' c' ([] : List (Int × Bs)) ∧ Has E w' [hL', [Hp.one mb (.map es' c')], (yo db #[(yp pb), v, (.map (some mb))] 150), (yP pb (backS p)), R] := by
 refine zs (args := [(yp db), vk]) Tryz.func26 rfl Tryz.ntmps26 (by simp) (yq fun K1 hK1 => (zd (za (zb (yp db) rfl (za (o_pnnil (p := some _) Tryz.underlying25 rfl rfl (zf (ze (hK1 _ _ (zP rfl rfl (yq fun K2 hK2 => (zd (za (zb (yp db) rfl (za (zl rfl (za (zg (k := 0) (fun _ => by kernel_rfl) rfl (za (zj (v := (yp pb)) Tryz.underlying97 rfl rfl hH (zh 2 rfl) (CellsAt.one rfl) (za (zk (vs := #[(yp pb)]) ca113 rfl (zI rfl) (pback_c (p := p) (hH.front 3 rfl).all1) ?_))))))))))))))))))))))
 rintro _ w5 ⟨rfl, hX3⟩
 refine ⟨_, rfl, ?_⟩
 have hH4 := hX3.of_all1
 refine zf (ze (hK2 _ _ (zd (za (zb (yp db) rfl (za (zb vk rfl (za (zk (vs := #[(yp db), vk]) ca114 rfl (zF rfl rfl) (settle_i (p := (backS p)) (la := la) (lo := lo) (((hH4.front 3 rfl).front 3 rfl).front 3 rfl).all4 ho hm hlo (keep := keep) (hk_.mono (zh 0 rfl))) ?_)))))))))
 rintro _ w13 ⟨s6, es8, c9, rfl, ho7, hm10, hX11⟩
 refine ⟨_, rfl, ?_⟩
 have hH12 := hX11.of_all4
 refine zf (c_end0 Tryz.results26  ?_)
 exact ⟨_, _, _, rfl, ho7, hm10, hH12⟩
end Go.Q
namespace Go.Q
open Go.Proofs
set_option linter.unusedVariables false
set_option maxRecDepth 100000
attribute [local irreducible] wpList OK Code.wp
def DevAt (pb : Nat) (sg : List Hp) (db : Nat) (la : List Bs) (lo : List (Int × Bs)) : Prop := ∃ v hL mb es c, sg = hL ++ ([Hp.one mb (.map es c)] ++ (yo db #[(yp pb), v, (.map (some mb))] 150)) ∧ Own 9 1 v la.length (la.map sV) hL ∧ MapV iV sV es c lo
theorem Has.close3' {E w : World} {x a b c : List Hp} {ss : List (List Hp)} (H : Has E w (x :: a :: b :: c :: ss)) : Has E w (x :: (a ++ (b ++ c)) :: ss) := by
 unfold Has at *; simpa [List.append_assoc] using H
theorem sectors_d {E w : World} {R sg : List Hp} {pb db : Nat} {p : Pw} {la : List Bs} {lo : List (Int × Bs)} (hH : Has E w [sg, (yP pb p), R]) (hd : DevAt pb sg db la lo) :
  Calls Tryz.prog 85 #[(yp db)] w fun e w' => e = .returned (yi ((la.length : Nat) : Int)) ∧ Has E w' [sg, (yP pb p), R] := by
 obtain ⟨v, hL, mb, es, c, rfl, ho, hm⟩ := hd
 exact (sectors_i hH.open3 ho hm ).mono fun e w' ⟨he, hH'⟩ => ⟨he, hH'.close3⟩
theorem don_d {E w : World} {R sg : List Hp} {pb db : Nat} {p : Pw} {la : List Bs} {lo : List (Int × Bs)} (hH : Has E w [sg, (yP pb p), R]) (hd : DevAt pb sg db la lo) :
  Calls Tryz.prog 186 #[(yp db)] w fun e w' => e = .returned (.bool (!p.off)) ∧ Has E w' [sg, (yP pb p), R] := by
 obtain ⟨v, hL, mb, es, c, rfl, ho, hm⟩ := hd
 exact (don_i hH.open3 ho hm ).mono fun e w' ⟨he, hH'⟩ => ⟨he, hH'.close3⟩
theorem darm_d {E w : World} {R sg : List Hp} {pb db : Nat} {p : Pw} {la : List Bs} {lo : List (Int × Bs)} (hH : Has E w [sg, (yP pb p), R]) (hd : DevAt pb sg db la lo) (n : Int) :
  Calls Tryz.prog 22 #[(yp db), (yi n)] w fun e w' => e = .returned (.tuple #[]) ∧ Has E w' [sg, (yP pb (armS p n)), R] := by
 obtain ⟨v, hL, mb, es, c, rfl, ho, hm⟩ := hd
 exact (darm_i hH.open3 ho hm n).mono fun e w' ⟨he, hH'⟩ => ⟨he, hH'.close3⟩
theorem loose_d {E w : World} {R sg : List Hp} {pb db : Nat} {p : Pw} {la : List Bs} {lo : List (Int × Bs)} (hH : Has E w [sg, (yP pb p), R]) (hd : DevAt pb sg db la lo) (hlo : LoOk lo la.length) (hla : la.length ≤ 4096) :
  Calls Tryz.prog 112 #[(yp db)] w fun e w' => ∃ v' hs', e = .returned v' ∧ Own 3 1 v' (keysS lo).length ((keysS lo).map iV) hs' ∧ Has E w' [hs', sg, (yP pb p), R] := by
 obtain ⟨v, hL, mb, es, c, rfl, ho, hm⟩ := hd
 exact (loose_i hH.open3 ho hm hlo hla).mono fun e w' ⟨v', hs', he, ho', hH'⟩ => ⟨v', hs', he, ho', hH'.close3'⟩
theorem write_d {E w : World} {R sg : List Hp} {pb db : Nat} {p : Pw} {la : List Bs} {lo : List (Int × Bs)} (hH : Has E w [sg, (yP pb p), R]) (hd : DevAt pb sg db la lo) (hp : PwOk p) (hla : la.length ≤ 4096) (n : Int) {vd : Value} {l : List Bs} (hdd : Sl R 1 vd l.length (l.map sV)) (hn : l.length ≤ 1000000) (hl : l.flatten.length ≤ 1000000000) :
  Calls Tryz.prog 122 #[(yp db), (yi n), vd] w fun e w' => ∃ sg', e = .returned (yi (writeE p la.length n l.flatten)) ∧ DevAt pb sg' db la (writeS p la.length lo n l.flatten) ∧ Has E w' [sg', (yP pb (useS p)), R] := by
 obtain ⟨v, hL, mb, es, c, rfl, ho, hm⟩ := hd
 exact (write_i hH.open3 ho hm hp hla n hdd hn hl).mono fun e w' ⟨es', c', he, hm', hH'⟩ => ⟨_, he, ⟨v, hL, mb, es', c', rfl, ho, hm'⟩, hH'.close3⟩
theorem sync_d {E w : World} {R sg : List Hp} {pb db : Nat} {p : Pw} {la : List Bs} {lo : List (Int × Bs)} (hH : Has E w [sg, (yP pb p), R]) (hd : DevAt pb sg db la lo) (hp : PwOk p) (hla : la.length ≤ 4096) (hlo : LoOk lo la.length) :
  Calls Tryz.prog 32 #[(yp db)] w fun e w' => ∃ sg', e = .returned (yi (syncE p)) ∧ DevAt pb sg' db (syncA p la lo) (syncO p lo) ∧ Has E w' [sg', (yP pb (useS p)), R] := by
 obtain ⟨v, hL, mb, es, c, rfl, ho, hm⟩ := hd
 exact (sync_i hH.open3 ho hm hp hla hlo).mono fun e w' ⟨hL', es', c', he, ho', hm', hH'⟩ => ⟨_, he, ⟨v, hL', mb, es', c', rfl, ho', hm'⟩, hH'.close3⟩
theorem crash_d {E w : World} {R sg : List Hp} {pb db : Nat} {p : Pw} {la : List Bs} {lo : List (Int × Bs)} (hH : Has E w [sg, (yP pb p), R]) (hd : DevAt pb sg db la lo) (hlo : LoOk lo la.length) {vk : Value} {keep : List Int} (hk_ : Ints R vk keep) :
  Calls Tryz.prog 26 #[(yp db), vk] w fun e w' => ∃ sg', e = .returned (.tuple #[]) ∧ DevAt pb sg' db (settleS lo la keep) [] ∧ Has E w' [sg', (yP pb (backS p)), R] := by
 obtain ⟨v, hL, mb, es, c, rfl, ho, hm⟩ := hd
 exact (crash_i hH.open3 ho hm hlo hk_).mono fun e w' ⟨hL', es', c', he, ho', hm', hH'⟩ => ⟨_, he, ⟨v, hL', mb, es', c', rfl, ho', hm'⟩, hH'.close3⟩
theorem read_d {E w : World} {R sg : List Hp} {pb db : Nat} {p : Pw} {la : List Bs} {lo : List (Int × Bs)} (hH : Has E w [sg, (yP pb p), R]) (hd : DevAt pb sg db la lo) (n : Int) :
  Calls Tryz.prog 188 #[(yp db), (yi n)] w fun e w' => e = .returned (.tuple #[S (readS p la lo n), .int .i64 (readE p la n)]) ∧ Has E w' [sg, (yP pb p), R] := by
 obtain ⟨v, hL, mb, es, c, rfl, ho, hm⟩ := hd
 exact (read_i hH.open3 ho hm n).mono fun e w' ⟨he, hH'⟩ => ⟨he, hH'.close3⟩
theorem lasts_d {E w : World} {R sg : List Hp} {pb db : Nat} {p : Pw} {la : List Bs} {lo : List (Int × Bs)} (hH : Has E w [sg, (yP pb p), R]) (hd : DevAt pb sg db la lo) (n : Int) :
  Calls Tryz.prog 200 #[(yp db), (yi n)] w fun e w' => e = .returned (S (lastsS la n)) ∧ Has E w' [sg, (yP pb p), R] := by
 obtain ⟨v, hL, mb, es, c, rfl, ho, hm⟩ := hd
 exact (lasts_i hH.open3 ho hm n).mono fun e w' ⟨he, hH'⟩ => ⟨he, hH'.close3⟩
theorem new_nil {E w : World} {R : List Hp} (hH : Has E w [R]) {n : Nat} (hn : 1 ≤ n ∧ n ≤ 4096) :
  Calls Tryz.prog 12 #[(.pointer none), (yi (n : Int))] w fun e w' => ∃ db pb sg, e = .returned (yp db) ∧ DevAt pb sg db (List.replicate n blankS) [] ∧ Has E w' [sg, (yo pb #[(.bool false), (.bool false), (yi 0), (yi 0)] 145), R] := by
 refine zs (args := [(.pointer none), (yi (n : Int))]) Tryz.func12 rfl Tryz.ntmps12 (by simp) (yq fun K1 hK1 => (zd (za (zc (.pointer none) rfl (zf (ze (hK1 _ _ (yq fun K2 hK2 => (yq fun K3 hK3 => (zd (za (zb (yi (n : Int)) rfl (za (zL (a := (n : Int)) (b := 1) rfl rfl (za (zb (.bool (decide ((n : Int) < 1))) rfl ?_))))))))))))))))
 by_cases h4 : (n : Int) < 1
 ·
  exfalso; omega
 ·
  refine zo 7 rfl (cF h4) (zb (yi (n : Int)) rfl (zo 7 rfl (cF h4) (o_gtr (a := (n : Int)) (b := 4096) rfl rfl (za (zm (u := (.bool (decide (4096 < (n : Int))))) ((rfl : _ = _).trans (cF h4)) rfl (zf (ze (hK3 _ _ (zt rfl (fun h5 => ?_) (fun h5 => ?_))))))))))
  ·
   exfalso; omega
  ·
   refine wp_skip (ze (hK2 _ _ (yq fun K6 hK6 => (yq fun K7 hK7 => (zd (za (zb (.pointer none) rfl (za (o_pnil (p := none) Tryz.underlying97 rfl rfl (zf (ze (hK7 _ _ (zP rfl rfl (zd (za (zJ (v := (.agg #[(.bool false), (.bool false), (yi 0), (yi 0)])) (fun _ => by kernel_rfl) (za (o_box (cs := #[(.bool false), (.bool false), (yi 0), (yi 0)]) rfl rfl hH fun b8 w9 hH10 => (za (zc (yp b8) rfl (zf ?_)))))))))))))))))))))
   refine ze (hK6 _ _ (yq fun K11 hK11 => (zd (za (zb (yp b8) rfl (za (zk (vs := #[]) ca87 rfl (args0) (blank_c hH10.all) ?_)))))))
   rintro _ w14 ⟨rfl, hX12⟩
   refine ⟨_, rfl, ?_⟩
   have hH13 := hX12.of_all
   refine za (zw (ps := #[(0, (S blankS))]) (cells := #[(S blankS)]) Tryz.underlying46 ti9 (by decide) (yb rfl) (by kernel_rfl) hH13 fun b15 w16 hH17 => (za (zb (yi (n : Int)) rfl (za (zk (vs := #[(.slice (some ⟨b15, 0, none⟩) 1 1), (yi (n : Int))]) ca86 rfl (zF rfl rfl) (srepeat_c hH17.all (s := blankS) ((zW (f := sV) (l := [blankS]) rfl rfl (by simp)).mono (zh 0 rfl)) (n := n) (by omega)) ?_)))))
   rintro _ w23 ⟨v18, s19, rfl, ho20, hX21⟩
   refine ⟨_, rfl, ?_⟩
   have hH22 := hX21.of_all1
   obtain ⟨p_, c_, rfl⟩ := (Own.sl ho20).form
   refine za (o_makeMap hH22 fun m24 w25 hH26 => (za (zJ (v := (.agg #[(yp b8), (.slice p_ (List.replicate n blankS).length c_), (.map (some m24))])) (fun _ => by kernel_rfl) (za (o_box (cs := #[(yp b8), (.slice p_ (List.replicate n blankS).length c_), (.map (some m24))]) rfl rfl hH26 fun b27 w28 hH29 => (za (zc (yp b27) rfl (zf (ze (hK11 _ _ (wp_ret (zr Tryz.results12  (v := (yp b27)) rfl ?_))))))))))))
   have hH30 := (((((hH29.front 5 rfl).front 5 rfl).front 2 rfl).front 3 rfl).front 4 rfl).first 5 rfl
   exact ⟨_, _, _, rfl, ⟨_, _, _, _, _, rfl, ho20, MapV.nil⟩, hH30.close3⟩
end Go.Q
namespace Go.Q
open Go.Proofs
set_option linter.unusedVariables false
set_option maxRecDepth 100000
attribute [local irreducible] wpList OK Code.wp
theorem dv_wr {E w : World} {R sg : List Hp} {pb db : Nat} {d : Dv} (hH : Has E w [sg, (yP pb d.p), R]) (hd : DevAt pb sg db d.la d.lo) (hp : PwOk d.p) (h4 : d.la.length ≤ 4096) (n : Int) {vd : Value} {l : List Bs} (hv : Sl R 1 vd l.length (l.map sV)) {s : Bs} (hs : l.flatten = s) (hn : l.length ≤ 1000000) (hl : s.length ≤ 1000000000) :
  Calls Tryz.prog 122 #[.pointer (some ⟨db, 0, none⟩), .int .i64 n, vd] w fun e w' => ∃ sg', e = .returned (yi (d.wrE n s)) ∧ DevAt pb sg' db (d.wr n s).la (d.wr n s).lo ∧ Has E w' [sg', (yP pb (d.wr n s).p), R] := by
 subst hs
 exact write_d hH hd hp h4 n hv hn hl
theorem dv_sy {E w : World} {R sg : List Hp} {pb db : Nat} {d : Dv} (hH : Has E w [sg, (yP pb d.p), R]) (hd : DevAt pb sg db d.la d.lo) (hp : PwOk d.p) (h4 : d.la.length ≤ 4096) (hlk : LoOk d.lo d.la.length) :
  Calls Tryz.prog 32 #[.pointer (some ⟨db, 0, none⟩)] w fun e w' => ∃ sg', e = .returned (yi d.syE) ∧ DevAt pb sg' db d.sy.la d.sy.lo ∧ Has E w' [sg', (yP pb d.sy.p), R] := sync_d hH hd hp h4 hlk
theorem dv_cr {E w : World} {R sg : List Hp} {pb db : Nat} {d : Dv} (hH : Has E w [sg, (yP pb d.p), R]) (hd : DevAt pb sg db d.la d.lo) (hlk : LoOk d.lo d.la.length) {vk : Value} {keep : List Int} (hk_ : Ints R vk keep) :
  Calls Tryz.prog 26 #[.pointer (some ⟨db, 0, none⟩), vk] w fun e w' => ∃ sg', e = .returned (.tuple #[]) ∧ DevAt pb sg' db (d.cr keep).la (d.cr keep).lo ∧ Has E w' [sg', (yP pb (d.cr keep).p), R] := crash_d hH hd hlk hk_
theorem dv_ar {E w : World} {R sg : List Hp} {pb db : Nat} {d : Dv} (hH : Has E w [sg, (yP pb d.p), R]) (hd : DevAt pb sg db d.la d.lo) (n : Int) :
  Calls Tryz.prog 22 #[.pointer (some ⟨db, 0, none⟩), .int .i64 n] w fun e w' => e = .returned (.tuple #[]) ∧ DevAt pb sg db (d.ar n).la (d.ar n).lo ∧ Has E w' [sg, (yP pb (d.ar n).p), R] := (darm_d hH hd n).mono fun e w' ⟨h1, h2⟩ => ⟨h1, hd, h2⟩
theorem dv_syN {E w : World} {R sg : List Hp} {pb db : Nat} {d : Dv} (hH : Has E w [sg, (yP pb d.p), R]) (hd : DevAt pb sg db d.la d.lo) (hp : PwOk d.p) (h4 : d.la.length ≤ 4096) (hlk : LoOk d.lo d.la.length) :
  Calls Tryz.prog 32 #[.pointer (some ⟨db, 0, none⟩)] w fun e w' => ∃ sg', e = .returned (yi d.syE) ∧ DevAt pb sg' db d.syN.la d.syN.lo ∧ Has E w' [sg', (yP pb d.syN.p), R] := by
 rw [← sy_eq hlk]
 exact dv_sy hH hd hp h4 hlk
end Go.Q
namespace Go.Q
open Go.Proofs
set_option linter.unusedVariables false
set_option maxRecDepth 100000
attribute [local irreducible] wpList OK Code.wp
theorem sum_c {E w : World} {R : List Hp} (hH : Has E w [R]) {v : Value} {l : List Int} (hv : Ints R v l) :
  Calls Tryz.prog 198 #[v] w fun e w' => e = .returned (yi (sumS 0 l)) ∧ Has E w' [R] := by
 have hn := hv.le
 refine zs (args := [v]) Tryz.func198 rfl Tryz.ntmps198 (by simp) (yq fun K1 hK1 => (zd (za (zc (yi 0) rfl (zf (ze (hK1 _ _ (yq fun K2 hK2 => (zd (za (zc (yi 0) rfl (zf (ze (hK2 _ _ (yq fun K3 hK3 => (yq fun K4 hK4 => (zd (za (zb v rfl ?_)))))))))))))))))))
 refine za (zQ Tryz.underlying47 rfl hv (za (zb (yi 0) rfl (zf (ze (hK4 _ _ (wp_block ?_)))))))
 let I6 : Nat → (Nat → Value) → World → Prop := fun n__ r__ w__ => ∃ (k : Nat) (y : Int), n__ = l.length - k ∧ Has E w__ [R] ∧ (k ≤ l.length) ∧ (sumS 0 l = sumS y (l.drop k)) ∧ (0 ≤ y ∧ y ≤ 9223372036854775807) ∧ r__ 0 = v ∧ r__ 3 = (yi y) ∧ r__ 6 = v ∧ r__ 7 = (yi ((l.length : Nat) : Int)) ∧ r__ 8 = (yi (k : Int))
 refine zX I6 _ ⟨0, 0, rfl, hH, Nat.zero_le _, rfl, (by omega), rfl, rfl, rfl, rfl, rfl⟩ ?_
 rintro n_ r9 w7 ⟨k, y, rfl, hH8, hk, hy, hb, e5_0, e5_3, e5_6, e5_7, e5_8⟩
 refine yq fun K10 hK10 => (zd (za (zL (a := (k : Int)) (b := ((l.length : Nat) : Int)) e5_8 e5_7 (zf (ze (hK10 _ _ (yq fun K11 hK11 => (zt rfl (fun h12 => ?_) (fun h12 => ?_)))))))))
 ·
  refine wp_skip (ze (hK11 _ _ (yq fun K13 hK13 => (wp_block (yq fun K14 hK14 => (zd ?_))))))
  obtain ⟨x18, hx19⟩ : ∃ x_, l[((k : Int)).toNat]? = some x_ := zN (by omega)
  refine za (z6 Tryz.underlying47 ti3 e5_6 hv e5_8 (by omega) hx19 fun b15 o16 hc17 => (za (zj (v := (yi x18)) Tryz.underlying3 rfl rfl hH8 (zh 0 rfl) hc17 (za (zc (yi x18) rfl (zf (ze (hK14 _ _ (yq fun K20 hK20 => (yq fun K21 hK21 => (zd (za (zb (yi x18) rfl (za (zb (yi y) e5_3 (za (o_sub (a := 9223372036854775807) (b := y) rfl rfl (w64 (by omega) (by omega)) (za (o_gtr (a := x18) (b := 9223372036854775807 - y) rfl rfl (zf (ze (hK21 _ _ (zt rfl (fun h22 => ?_) (fun h22 => ?_))))))))))))))))))))))))
  ·
   refine yq fun K23 hK23 => (zd (za (zc (yi 9223372036854775807) rfl (zf (ze (hK23 _ _ (wp_ret (zx (zZ (zx (zx (zZ (zx (zr Tryz.results198  (v := (yi 9223372036854775807)) rfl ?_))))))))))))))
   exact ⟨by rw [hy, drop_of (by simpa using hx19), sumS, if_pos (by omega)], hH8⟩
  ·
   refine wp_skip (ze (hK20 _ _ (zd (za (zb (yi y) e5_3 (za (zb (yi x18) rfl (za (o_max (a := x18) (b := 0) rfl rfl (za (zD (a := y) (b := max x18 0) rfl rfl (w64 (by omega) (by omega)) (za (zc (yi (y + (max x18 0))) rfl (zf (zC (ze (hK13 _ _ (zd (za (zD (a := (k : Int)) (b := 1) e5_8 rfl (w64 (by omega) (by omega)) (za (zb (yi ((k : Int) + 1)) rfl (zf ?_)))))))))))))))))))))))
   refine ze ⟨l.length - (k + 1), _, rfl, ?_, ?_⟩
   · omega
   · exact ⟨(k + 1), (y + (max x18 0)), rfl, hH8, (by omega), (by rw [hy, drop_of (by simpa using hx19), sumS, if_neg (by omega)]), (by omega), e5_0, rfl, e5_6, e5_7, rfl⟩
 ·
  refine wp_exit (zy (zy (x_in ((ze (hK3 _ _ (yq fun K24 hK24 => (zd (za (zb (yi y) e5_3 (za (zc (yi y) rfl (zf (ze (hK24 _ _ (wp_ret (zr Tryz.results198  (v := (yi y)) rfl ?_)))))))))))))))))
  exact ⟨by rw [hy, List.drop_of_length_le (by omega)]; rfl, hH8⟩
theorem most_c {E w : World} {R : List Hp} (hH : Has E w [R]) (x : Int) {v : Value} {l : List Int} (hv : Ints R v l) :
  Calls Tryz.prog 117 #[(yi x), v] w fun e w' => e = .returned (yi (l.foldl max x)) ∧ Has E w' [R] := by
 have hn := hv.le
 refine zs (args := [(yi x), v]) Tryz.func117 rfl Tryz.ntmps117 (by simp) (yq fun K1 hK1 => (zd (za (zc (yi 0) rfl (zf (ze (hK1 _ _ (yq fun K2 hK2 => (yq fun K3 hK3 => (zd (za (zb v rfl (za (zQ Tryz.underlying47 rfl hv (za (zb (yi 0) rfl (zf (ze (hK3 _ _ (wp_block ?_))))))))))))))))))))
 let I5 : Nat → (Nat → Value) → World → Prop := fun n__ r__ w__ => ∃ (k : Nat) (y : Int), n__ = l.length - k ∧ Has E w__ [R] ∧ (k ≤ l.length) ∧ (y = (l.take k).foldl max x) ∧ r__ 0 = (yi y) ∧ r__ 1 = v ∧ r__ 4 = (yi 0) ∧ r__ 7 = v ∧ r__ 8 = (yi ((l.length : Nat) : Int)) ∧ r__ 9 = (yi (k : Int))
 refine zX I5 _ ⟨0, x, rfl, hH, Nat.zero_le _, rfl, rfl, rfl, rfl, rfl, rfl, rfl⟩ ?_
 rintro n_ r8 w6 ⟨k, y, rfl, hH7, hk, hy, e4_0, e4_1, e4_4, e4_7, e4_8, e4_9⟩
 refine yq fun K9 hK9 => (zd (za (zL (a := (k : Int)) (b := ((l.length : Nat) : Int)) e4_9 e4_8 (zf (ze (hK9 _ _ (yq fun K10 hK10 => (zt rfl (fun h11 => ?_) (fun h11 => ?_)))))))))
 ·
  refine wp_skip (ze (hK10 _ _ (yq fun K12 hK12 => (wp_block (yq fun K13 hK13 => (zd ?_))))))
  obtain ⟨x17, hx18⟩ : ∃ x_, l[((k : Int)).toNat]? = some x_ := zN (by omega)
  refine za (z6 Tryz.underlying47 ti3 e4_7 hv e4_9 (by omega) hx18 fun b14 o15 hc16 => (za (zj (v := (yi x17)) Tryz.underlying3 rfl rfl hH7 (zh 0 rfl) hc16 (za (zc (yi x17) rfl (zf (ze (hK13 _ _ (zd (za (zb (yi y) e4_0 (za (zb (yi x17) rfl (za (o_max (a := y) (b := x17) rfl rfl (za (zc (yi (max y x17)) rfl (zf (zC (ze (hK12 _ _ (zd (za (zD (a := (k : Int)) (b := 1) e4_9 rfl (w64 (by omega) (by omega)) ?_))))))))))))))))))))))))
  refine za (zb (yi ((k : Int) + 1)) rfl (zf (ze ⟨l.length - (k + 1), _, rfl, ?_, ?_⟩)))
  · omega
  · exact ⟨(k + 1), (max y x17), rfl, hH7, (by omega), (by rw [zS (by simpa using hx18), List.foldl_append, ← hy]; rfl), rfl, e4_1, e4_4, e4_7, e4_8, rfl⟩
 ·
  refine wp_exit (zy (zy (x_in ((ze (hK2 _ _ (yq fun K19 hK19 => (zd (za (zb (yi y) e4_0 (za (zc (yi y) rfl (zf (ze (hK19 _ _ (wp_ret (zr Tryz.results117  (v := (yi y)) rfl ?_)))))))))))))))))
  have e : k = l.length := by omega
  subst e
  rw [List.take_of_length_le (Nat.le_refl _)] at hy
  subst hy
  exact ⟨rfl, hH7⟩
theorem least_c {E w : World} {R : List Hp} (hH : Has E w [R]) (x : Int) {v : Value} {l : List Int} (hv : Ints R v l) :
  Calls Tryz.prog 174 #[(yi x), v] w fun e w' => e = .returned (yi (l.foldl min x)) ∧ Has E w' [R] := by
 have hn := hv.le
 refine zs (args := [(yi x), v]) Tryz.func174 rfl Tryz.ntmps174 (by simp) (yq fun K1 hK1 => (zd (za (zc (yi 0) rfl (zf (ze (hK1 _ _ (yq fun K2 hK2 => (yq fun K3 hK3 => (zd (za (zb v rfl (za (zQ Tryz.underlying47 rfl hv (za (zb (yi 0) rfl (zf (ze (hK3 _ _ (wp_block ?_))))))))))))))))))))
 let I5 : Nat → (Nat → Value) → World → Prop := fun n__ r__ w__ => ∃ (k : Nat) (y : Int), n__ = l.length - k ∧ Has E w__ [R] ∧ (k ≤ l.length) ∧ (y = (l.take k).foldl min x) ∧ r__ 0 = (yi y) ∧ r__ 1 = v ∧ r__ 4 = (yi 0) ∧ r__ 7 = v ∧ r__ 8 = (yi ((l.length : Nat) : Int)) ∧ r__ 9 = (yi (k : Int))
 refine zX I5 _ ⟨0, x, rfl, hH, Nat.zero_le _, rfl, rfl, rfl, rfl, rfl, rfl, rfl⟩ ?_
 rintro n_ r8 w6 ⟨k, y, rfl, hH7, hk, hy, e4_0, e4_1, e4_4, e4_7, e4_8, e4_9⟩
 refine yq fun K9 hK9 => (zd (za (zL (a := (k : Int)) (b := ((l.length : Nat) : Int)) e4_9 e4_8 (zf (ze (hK9 _ _ (yq fun K10 hK10 => (zt rfl (fun h11 => ?_) (fun h11 => ?_)))))))))
 ·
  refine wp_skip (ze (hK10 _ _ (yq fun K12 hK12 => (wp_block (yq fun K13 hK13 => (zd ?_))))))
  obtain ⟨x17, hx18⟩ : ∃ x_, l[((k : Int)).toNat]? = some x_ := zN (by omega)
  refine za (z6 Tryz.underlying47 ti3 e4_7 hv e4_9 (by omega) hx18 fun b14 o15 hc16 => (za (zj (v := (yi x17)) Tryz.underlying3 rfl rfl hH7 (zh 0 rfl) hc16 (za (zc (yi x17) rfl (zf (ze (hK13 _ _ (zd (za (zb (yi y) e4_0 (za (zb (yi x17) rfl (za (o_min (a := y) (b := x17) rfl rfl (za (zc (yi (min y x17)) rfl (zf (zC (ze (hK12 _ _ (zd (za (zD (a := (k : Int)) (b := 1) e4_9 rfl (w64 (by omega) (by omega)) ?_))))))))))))))))))))))))
  refine za (zb (yi ((k : Int) + 1)) rfl (zf (ze ⟨l.length - (k + 1), _, rfl, ?_, ?_⟩)))
  · omega
  · exact ⟨(k + 1), (min y x17), rfl, hH7, (by omega), (by rw [zS (by simpa using hx18), List.foldl_append, ← hy]; rfl), rfl, e4_1, e4_4, e4_7, e4_8, rfl⟩
 ·
  refine wp_exit (zy (zy (x_in ((ze (hK2 _ _ (yq fun K19 hK19 => (zd (za (zb (yi y) e4_0 (za (zc (yi y) rfl (zf (ze (hK19 _ _ (wp_ret (zr Tryz.results174  (v := (yi y)) rfl ?_)))))))))))))))))
  have e : k = l.length := by omega
  subst e
  rw [List.take_of_length_le (Nat.le_refl _)] at hy
  subst hy
  exact ⟨rfl, hH7⟩
theorem fits_c {E w : World} {R : List Hp} (hH : Has E w [R]) (n : Int) (m : Nat) (hm : m ≤ 8) :
  Calls Tryz.prog 176 #[(yi n), (yi (m : Int))] w fun e w' => e = .returned (.bool (fitsS n m)) ∧ Has E w' [R] := by
 refine zs (args := [(yi n), (yi (m : Int))]) Tryz.func176 rfl Tryz.ntmps176 (by simp) (yq fun K1 hK1 => (zd (za (zc (.bool false) rfl (zf (ze (hK1 _ _ (yq fun K2 hK2 => (zd (za (zb (yi n) rfl (za (o_geq (a := n) (b := 0) rfl rfl (za (zb (.bool (decide (0 ≤ n))) rfl ?_)))))))))))))))
 by_cases h3 : 0 ≤ n
 ·
  refine zo 7 rfl (cT h3) (zb (yi (m : Int)) rfl (zo 7 rfl (cT h3) (yc (a := (m : Int)) (b := 8) rfl rfl (zo 7 rfl (cT h3) (zb (.bool (decide ((m : Int) = 8))) rfl ?_)))))
  by_cases h4 : (m : Int) = 8
  ·
   refine zi (b' := true) 10 rfl (cT h4) rfl (zi (b' := true) 10 rfl (cT h4) rfl (zi (b' := true) 10 rfl (cT h4) rfl (zi (b' := true) 10 rfl (cT h4) rfl (zi (b' := true) 10 rfl (cT h4) rfl (zo 7 rfl (cT h3) (zq (u := (.bool true)) ((rfl : _ = _).trans (cT h4)) rfl (za (zq (u := (.bool true)) ((rfl : _ = _).trans (cT h3)) rfl (za (zc (.bool true) rfl (zf (ze (hK2 _ _ (wp_ret (zr Tryz.results176  (v := (.bool true)) rfl ?_)))))))))))))))
   exact ⟨by simp [fitsS, *], hH⟩
  ·
   refine zo 10 rfl (cF h4) (zb (yi n) rfl (zo 10 rfl (cF h4) (zb (yi (m : Int)) rfl (zo 10 rfl (cF h4) (o_mul (a := 8) (b := (m : Int)) rfl rfl (w64 (by omega) (by omega)) (zo 10 rfl (cF h4) (o_shr (c := Int.fdiv n (2 ^ (min (8 * (m : Int)).toNat 64))) rfl rfl (by omega) rfl (zo 10 rfl (cF h4) (yc (a := Int.fdiv n (2 ^ (min (8 * (m : Int)).toNat 64))) (b := 0) rfl rfl (zo 7 rfl (cT h3) (zm (u := (.bool (decide (Int.fdiv n (2 ^ (min (8 * (m : Int)).toNat 64)) = 0)))) ((rfl : _ = _).trans (cF h4)) rfl (za (zq (u := (.bool (decide (Int.fdiv n (2 ^ (min (8 * (m : Int)).toNat 64)) = 0)))) ((rfl : _ = _).trans (cT h3)) rfl (za (zc (.bool (decide (Int.fdiv n (2 ^ (min (8 * (m : Int)).toNat 64)) = 0))) rfl (zf (ze (hK2 _ _ (wp_ret (zr Tryz.results176  (v := (.bool (decide (Int.fdiv n (2 ^ (min (8 * (m : Int)).toNat 64)) = 0)))) rfl ?_))))))))))))))))))))
   exact ⟨by simp [fitsS, *], hH⟩
 ·
  refine zi (b' := false) 7 rfl (cF h3) rfl (zi (b' := false) 7 rfl (cF h3) rfl (zi (b' := false) 7 rfl (cF h3) rfl (zE 10 rfl rfl (zE 10 rfl rfl (zE 10 rfl rfl (zE 10 rfl rfl (zE 10 rfl rfl (zi (b' := false) 7 rfl (cF h3) rfl (za (zm (u := (.bool false)) ((rfl : _ = _).trans (cF h3)) rfl (za (zc (.bool false) rfl (zf (ze (hK2 _ _ (wp_ret (zr Tryz.results176  (v := (.bool false)) rfl ?_)))))))))))))))))
  exact ⟨by simp [fitsS, *], hH⟩
theorem put_c {E w : World} {R : List Hp} (hH : Has E w [R]) (m : Nat) {v : Value} {l : List Int} (hv : Ints R v l) (hl : l.length ≤ 1000000) :
  Calls Tryz.prog 90 #[(yi (m : Int)), v] w fun e w' => e = .returned (S (putS m l)) ∧ Has E w' [R] := by
 have hml0 : 0 ≤ (m : Int) * (l.length : Int) := Int.mul_nonneg (by omega) (by omega)
 have hml : m ≤ 8 → (m : Int) * (l.length : Int) ≤ 8000000 := fun h => by have h2 : m * l.length ≤ 8 * 1000000 := Nat.mul_le_mul h hl; have h3 := Int.ofNat_le.2 h2; rw [Int.natCast_mul] at h3; omega
 refine zs (args := [(yi (m : Int)), v]) Tryz.func90 rfl Tryz.ntmps90 (by simp) (yq fun K1 hK1 => (zd (za (zc (S ([] : List UInt8)) rfl (zf (ze (hK1 _ _ (yq fun K2 hK2 => (yq fun K3 hK3 => (zd (za (zb (yi (m : Int)) rfl (za (zL (a := (m : Int)) (b := 1) rfl rfl (za (zb (.bool (decide ((m : Int) < 1))) rfl ?_))))))))))))))))
 by_cases h4 : (m : Int) < 1
 ·
  refine zi (b' := true) 11 rfl (cT h4) rfl (zi (b' := true) 11 rfl (cT h4) rfl (za (zq (u := (.bool true)) ((rfl : _ = _).trans (cT h4)) rfl (zf (ze (hK3 _ _ (zP rfl rfl (yq fun K5 hK5 => (zd (za (zc (S ([] : List UInt8)) rfl (zf (ze (hK5 _ _ (wp_ret (zx (zr Tryz.results90  (v := (S ([] : List UInt8))) rfl ?_)))))))))))))))))
  exact ⟨by rw [putS, if_neg (by omega)], hH⟩
 ·
  refine zo 11 rfl (cF h4) (zb (yi (m : Int)) rfl (zo 11 rfl (cF h4) (o_gtr (a := (m : Int)) (b := 8) rfl rfl (za (zm (u := (.bool (decide (8 < (m : Int))))) ((rfl : _ = _).trans (cF h4)) rfl (zf (ze (hK3 _ _ (zt rfl (fun h6 => ?_) (fun h6 => ?_))))))))))
  ·
   refine yq fun K7 hK7 => (zd (za (zc (S ([] : List UInt8)) rfl (zf (ze (hK7 _ _ (wp_ret (zx (zr Tryz.results90  (v := (S ([] : List UInt8))) rfl ?_)))))))))
   exact ⟨by rw [putS, if_neg (by omega)], hH⟩
  ·
   refine wp_skip (ze (hK2 _ _ (yq fun K8 hK8 => (zd (za (zb (yi (m : Int)) rfl (za (zb v rfl (za (zQ Tryz.underlying47 rfl hv (za (o_mul (a := (m : Int)) (b := ((l.length : Nat) : Int)) rfl rfl (w64 (by omega) (by omega)) (za (o_make Tryz.underlying30 ti5 rfl rfl (by omega) (by omega) (by omega) (by omega) hH fun v9 s10 w12 ho11 hH13 => ?_))))))))))))))
   have ho11 : Own 5 1 v9 0 [] s10 := by simpa using ho11
   refine za (zc v9 rfl (zf (ze (hK8 _ _ (yq fun K14 hK14 => (yq fun K15 hK15 => (zd (za (zb v rfl (za (zQ Tryz.underlying47 rfl hv (za (zb (yi 0) rfl (zf (ze (hK15 _ _ (wp_block ?_)))))))))))))))))
   let I17 : Nat → (Nat → Value) → World → Prop := fun n__ r__ w__ => ∃ (k : Nat) (vb : Value) (hs : List Hp) (lb : List UInt8), n__ = l.length - k ∧ Has E w__ [hs, R] ∧ (k ≤ l.length) ∧ (Own 5 1 vb lb.length (lb.map bV) hs) ∧ (lb = (l.take k).flatMap (beFrom · m)) ∧ (∀ x ∈ l.take k, fitsS x m = true) ∧ (lb.length ≤ 8 * k) ∧ r__ 0 = (yi (m : Int)) ∧ r__ 1 = v ∧ r__ 5 = vb ∧ r__ 14 = (.bool (decide (8 < (m : Int)))) ∧ r__ 20 = v ∧ r__ 21 = (yi ((l.length : Nat) : Int)) ∧ r__ 22 = (yi (k : Int))
   refine zX I17 _ ⟨0, v9, s10, [], rfl, hH13, Nat.zero_le _, ho11, rfl, (by simp), (by simp), rfl, rfl, rfl, rfl, rfl, rfl, rfl⟩ ?_
   rintro n_ r20 w18 ⟨k, vb, hs, lb, rfl, hH19, hk, hob, hlb, hfit, hlen, e16_0, e16_1, e16_5, e16_14, e16_20, e16_21, e16_22⟩
   refine yq fun K21 hK21 => (zd (za (zL (a := (k : Int)) (b := ((l.length : Nat) : Int)) e16_22 e16_21 (zf (ze (hK21 _ _ (yq fun K22 hK22 => (zt rfl (fun h23 => ?_) (fun h23 => ?_)))))))))
   ·
    refine wp_skip (ze (hK22 _ _ (yq fun K24 hK24 => (wp_block (yq fun K25 hK25 => (zd ?_))))))
    obtain ⟨x29, hx30⟩ : ∃ x_, l[((k : Int)).toNat]? = some x_ := zN (by omega)
    refine za (z6 Tryz.underlying47 ti3 e16_20 hv e16_22 (by omega) hx30 fun b26 o27 hc28 => (za (zj (v := (yi x29)) Tryz.underlying3 rfl rfl hH19 (zh 1 rfl) hc28 (za (zc (yi x29) rfl (zf (ze (hK25 _ _ (yq fun K31 hK31 => (yq fun K32 hK32 => (zd (za (zb (yi x29) rfl (za (zb (yi (m : Int)) e16_0 (za (zk (vs := #[(yi x29), (yi (m : Int))]) ca176 rfl (zF rfl rfl) (fits_c hH19.all x29 m (by omega)) ?_)))))))))))))))))
    rintro _ w35 ⟨rfl, hX33⟩
    refine ⟨_, rfl, ?_⟩
    have hH34 := hX33.of_all
    refine za (o_not rfl (zf (ze (hK32 _ _ (z7 rfl (fun h36 => ?_) (fun h36 => ?_))))))
    ·
     have h36_n : (fitsS x29 m) = false := by first | simpa using h36 | exact Bool.of_not_eq_true (fun g_ => by rw [g_] at h36; cases h36)
     refine yq fun K37 hK37 => (zd (za (zc (S ([] : List UInt8)) rfl (zf (ze (hK37 _ _ (wp_ret (zx (zZ (zx (zx (zZ (zx (zr Tryz.results90  (v := (S ([] : List UInt8))) rfl ?_))))))))))))))
     have hH38 := (hH34.front 1 rfl).first 1 rfl
     exact ⟨by rw [putS_no (x := x29) (List.mem_of_getElem? hx30) (by simpa using h36)], hH38⟩
    ·
     have h36_n : (fitsS x29 m) = true := by first | simpa using h36 | exact Bool.of_not_eq_false (fun g_ => by rw [g_] at h36; cases h36)
     refine wp_skip (ze (hK31 _ _ (yq fun K39 hK39 => (zd (za (zb (yi (m : Int)) e16_0 (za (o_sub (a := (m : Int)) (b := 1) rfl rfl (w64 (by omega) (by omega)) (za (zc (yi ((m : Int) - 1)) rfl (zf (ze (hK39 _ _ (wp_block ?_))))))))))))))
     let I41 : Nat → (Nat → Value) → World → Prop := fun n__ r__ w__ => ∃ (j : Nat) (i : Int) (vc : Value) (hs2 : List Hp) (lc : List UInt8), n__ = j + 1 ∧ Has E w__ [hs2, R] ∧ (j ≤ m) ∧ (i = (j : Int) - 1) ∧ (Own 5 1 vc lc.length (lc.map bV) hs2) ∧ (lb ++ beFrom x29 m = lc ++ beFrom x29 j) ∧ (lc.length + j ≤ lb.length + m) ∧ r__ 0 = (yi (m : Int)) ∧ r__ 1 = v ∧ r__ 5 = vc ∧ r__ 7 = (yi x29) ∧ r__ 8 = (yi i) ∧ r__ 14 = (.bool (decide (8 < (m : Int)))) ∧ r__ 20 = v ∧ r__ 21 = (yi ((l.length : Nat) : Int)) ∧ r__ 22 = (yi (k : Int)) ∧ r__ 23 = (.bool (decide ((k : Int) < ((l.length : Nat) : Int)))) ∧ r__ 29 = (.bool (!(fitsS x29 m)))
     refine zX I41 _ ⟨m, ((m : Int) - 1), vb, hs, lb, rfl, hH34, Nat.le_refl _, rfl, hob, rfl, (by omega), e16_0, e16_1, e16_5, rfl, rfl, e16_14, e16_20, e16_21, e16_22, rfl, rfl⟩ ?_
     rintro n_ r44 w42 ⟨j, i, vc, hs2, lc, rfl, hH43, hj, hi, hoc, hpart, hlen2, e40_0, e40_1, e40_5, e40_7, e40_8, e40_14, e40_20, e40_21, e40_22, e40_23, e40_29⟩
     refine yq fun K45 hK45 => (yq fun K46 hK46 => (zd (za (zb (yi i) e40_8 (za (o_geq (a := i) (b := 0) rfl rfl (zf (ze (hK46 _ _ (zt rfl (fun h47 => ?_) (fun h47 => ?_)))))))))))
     ·
      refine wp_skip (ze (hK45 _ _ (yq fun K48 hK48 => (wp_block (zd (za (zb vc e40_5 (za (zb (yi x29) e40_7 (za (zb (yi i) e40_8 (za (o_mul (a := 8) (b := i) rfl rfl (w64 (by omega) (by omega)) (za (o_shr (c := Int.fdiv x29 (2 ^ (min (8 * i).toNat 64))) rfl rfl (by omega) rfl (za (o_conv (c := ((by8 (Int.fdiv x29 (2 ^ (min (8 * i).toNat 64)))).toNat : Int)) Tryz.underlying3 Tryz.underlying5 rfl (wrap_by8 _) (za (zw (ps := #[(0, (bV (by8 (Int.fdiv x29 (2 ^ (min (8 * i).toNat 64))))))]) (cells := #[(bV (by8 (Int.fdiv x29 (2 ^ (min (8 * i).toNat 64)))))]) Tryz.underlying30 ti5 (by decide) (yb rfl) (by kernel_rfl) hH43 fun b49 w50 hH51 => (za (o_append Tryz.underlying30 ti5 rfl (by decide) rfl hoc rfl (zW (f := bV) (l := [(by8 (Int.fdiv x29 (2 ^ (min (8 * i).toNat 64))))]) rfl rfl (by simp)) (hH51.front 1 rfl) (zh 0 rfl) (one_bV _) (by simp; omega) (by simp; omega) fun v52 s53 w55 ho54 hH56 => ?_)))))))))))))))))))))
      have ho54 : Own 5 1 v52 (lc ++ [(by8 (Int.fdiv x29 (2 ^ (min (8 * i).toNat 64))))]).length ((lc ++ [(by8 (Int.fdiv x29 (2 ^ (min (8 * i).toNat 64))))]).map bV) s53 := ho54.app
      refine za (zc v52 rfl (zf (zC (ze (hK48 _ _ (zd (za (zb (yi i) e40_8 (za (o_sub (a := i) (b := 1) rfl rfl (w64 (by omega) (by omega)) (za (zc (yi (i - 1)) rfl (zf ?_)))))))))))))
      have hH57 := ((hH56.front 2 rfl).front 1 rfl).first 2 rfl
      refine ze ⟨(j - 1) + 1, _, rfl, ?_, ?_⟩
      · omega
      · exact ⟨(j - 1), (i - 1), v52, s53, (lc ++ [(by8 (Int.fdiv x29 (2 ^ (min (8 * i).toNat 64))))]), rfl, hH57, (by omega), (by omega), (ho54), (by rw [hpart, beFrom_pred (by omega), hi, by8_shift _ (by omega) (by omega)]; simp [List.append_assoc]), (by simp; omega), e40_0, e40_1, rfl, e40_7, rfl, e40_14, e40_20, e40_21, e40_22, e40_23, e40_29⟩
     ·
      refine wp_exit (zy (zy (x_in ((zC (ze (hK24 _ _ (zd (za (zD (a := (k : Int)) (b := 1) e40_22 rfl (w64 (by omega) (by omega)) (za (zb (yi ((k : Int) + 1)) rfl (zf (ze ⟨l.length - (k + 1), _, rfl, ?_, ?_⟩))))))))))))))
      · omega
      · exact ⟨(k + 1), vc, hs2, lc, rfl, hH43, (by omega), (hoc), (by (have e : j = 0 := by omega); rw [e] at hpart; rw [zS (by simpa using hx30), List.flatMap_append, ← hlb]; simpa [beFrom] using hpart.symm), (by rw [zS (by simpa using hx30)]; exact fun x hx => (List.mem_append.1 hx).elim (hfit x) (fun h => by simp at h; subst h; simpa using h36)), (by omega), e40_0, e40_1, e40_5, e40_14, e40_20, e40_21, rfl⟩
   ·
    refine wp_exit (zy (zy (x_in ((ze (hK14 _ _ (yq fun K58 hK58 => (zd (za (zb vb e16_5 (za (o_bstr Tryz.underlying30 Tryz.underlying5 Tryz.underlying9 rfl hob.sl hH19 (zh 0 rfl) (za (zc (S lb) rfl (zf (ze (hK58 _ _ (wp_ret (zr Tryz.results90  (v := (S lb)) rfl ?_)))))))))))))))))))
    have hH59 := (hH19.front 1 rfl).first 1 rfl
    have e : k = l.length := by omega
    subst e
    rw [List.take_of_length_le (Nat.le_refl _)] at hlb hfit
    exact ⟨by rw [putS_yes (by omega) (by omega) hfit, hlb], hH59⟩
theorem take_c {E w : World} {R : List Hp} (hH : Has E w [R]) (m : Nat) (s : List UInt8) (hsl : s.length ≤ 9223372036854775807) :
  Calls Tryz.prog 276 #[(S s), (yi (m : Int))] w fun e w' => e = .returned (.tuple #[.int .i64 (takeS s m).1, S (takeS s m).2.1, .bool (takeS s m).2.2]) ∧ Has E w' [R] := by
 refine zs (args := [(S s), (yi (m : Int))]) Tryz.func276 rfl Tryz.ntmps276 (by simp) (yq fun K1 hK1 => (zd (za (zc (yi 0) rfl (za (zc (S ([] : List UInt8)) rfl (za (zc (.bool false) rfl (zf (ze (hK1 _ _ (yq fun K2 hK2 => (yq fun K3 hK3 => (zd (za (zb (yi (m : Int)) rfl (za (zL (a := (m : Int)) (b := 1) rfl rfl (za (zb (.bool (decide ((m : Int) < 1))) rfl ?_))))))))))))))))))))
 by_cases h4 : (m : Int) < 1
 ·
  refine zi (b' := true) 11 rfl (cT h4) rfl (zi (b' := true) 11 rfl (cT h4) rfl (za (zq (u := (.bool true)) ((rfl : _ = _).trans (cT h4)) rfl (za (zb (.bool true) rfl (zi (b' := true) 15 rfl rfl rfl (zi (b' := true) 15 rfl rfl rfl (zi (b' := true) 15 rfl rfl rfl (zi (b' := true) 15 rfl rfl rfl (za (zq (u := (.bool true)) rfl rfl (za (zb (.bool true) rfl (zi (b' := true) 21 rfl rfl rfl (zi (b' := true) 21 rfl rfl rfl (zi (b' := true) 21 rfl rfl rfl (zE 24 rfl rfl (zE 24 rfl rfl ?_))))))))))))))))))
  refine zE 24 rfl rfl (zi (b' := true) 21 rfl rfl rfl (za (zq (u := (.bool true)) rfl rfl (zf (ze (hK3 _ _ (zP rfl rfl (yq fun K5 hK5 => (zd (za (zb (S s) rfl (za (zc (yi 0) rfl (za (zc (S s) rfl (za (zc (.bool false) rfl (zf (ze (hK5 _ _ (wp_ret ?_)))))))))))))))))))))
  refine zx (c_ret3 Tryz.results276  (v := (yi 0)) rfl (x := (S s)) rfl (y := (.bool false)) rfl ?_)
  exact ⟨by rw [takeS_no (by first | exact .inl (by omega) | exact .inr (.inl (by omega)) | exact .inr (.inr ⟨by omega, 0, by simpa using rfl, by omega⟩))], hH⟩
 ·
  refine zo 11 rfl (cF h4) (zb (yi (m : Int)) rfl (zo 11 rfl (cF h4) (o_gtr (a := (m : Int)) (b := 8) rfl rfl (za (zm (u := (.bool (decide (8 < (m : Int))))) ((rfl : _ = _).trans (cF h4)) rfl (za (zb (.bool (decide (8 < (m : Int)))) rfl ?_)))))))
  by_cases h6 : 8 < (m : Int)
  ·
   refine zi (b' := true) 15 rfl (cT h6) rfl (zi (b' := true) 15 rfl (cT h6) rfl (zi (b' := true) 15 rfl (cT h6) rfl (zi (b' := true) 15 rfl (cT h6) rfl (za (zq (u := (.bool true)) ((rfl : _ = _).trans (cT h6)) rfl (za (zb (.bool true) rfl (zi (b' := true) 21 rfl rfl rfl (zi (b' := true) 21 rfl rfl rfl (zi (b' := true) 21 rfl rfl rfl (zE 24 rfl rfl (zE 24 rfl rfl (zE 24 rfl rfl (zi (b' := true) 21 rfl rfl rfl (za (zq (u := (.bool true)) rfl rfl (zf ?_)))))))))))))))))
   refine ze (hK3 _ _ (zP rfl rfl (yq fun K7 hK7 => (zd (za (zb (S s) rfl (za (zc (yi 0) rfl (za (zc (S s) rfl (za (zc (.bool false) rfl (zf (ze (hK7 _ _ (wp_ret (zx (c_ret3 Tryz.results276  (v := (yi 0)) rfl (x := (S s)) rfl (y := (.bool false)) rfl ?_))))))))))))))))))
   exact ⟨by rw [takeS_no (by first | exact .inl (by omega) | exact .inr (.inl (by omega)) | exact .inr (.inr ⟨by omega, 0, by simpa using rfl, by omega⟩))], hH⟩
  ·
   refine zo 15 rfl (cF h6) (zb (S s) rfl (zo 15 rfl (cF h6) (z8 Tryz.underlying9 rfl (zo 15 rfl (cF h6) (zb (yi (m : Int)) rfl (zo 15 rfl (cF h6) (zL (a := (s.length : Int)) (b := (m : Int)) rfl rfl (za (zm (u := (.bool (decide ((s.length : Int) < (m : Int))))) ((rfl : _ = _).trans (cF h6)) rfl (za (zb (.bool (decide ((s.length : Int) < (m : Int)))) rfl ?_)))))))))))
   by_cases h8 : (s.length : Int) < (m : Int)
   ·
    refine zi (b' := true) 21 rfl (cT h8) rfl (zi (b' := true) 21 rfl (cT h8) rfl (zi (b' := true) 21 rfl (cT h8) rfl (zE 24 rfl rfl (zE 24 rfl rfl (zE 24 rfl rfl (zi (b' := true) 21 rfl (cT h8) rfl (za (zq (u := (.bool true)) ((rfl : _ = _).trans (cT h8)) rfl (zf (ze (hK3 _ _ (zP rfl rfl (yq fun K9 hK9 => (zd (za (zb (S s) rfl (za (zc (yi 0) rfl ?_))))))))))))))))))
    refine za (zc (S s) rfl (za (zc (.bool false) rfl (zf (ze (hK9 _ _ (wp_ret (zx (c_ret3 Tryz.results276  (v := (yi 0)) rfl (x := (S s)) rfl (y := (.bool false)) rfl ?_)))))))))
    exact ⟨by rw [takeS_no (by first | exact .inl (by omega) | exact .inr (.inl (by omega)) | exact .inr (.inr ⟨by omega, 0, by simpa using rfl, by omega⟩))], hH⟩
   ·
    refine zo 21 rfl (cF h8) (zb (yi (m : Int)) rfl (zo 21 rfl (cF h8) (yc (a := (m : Int)) (b := 8) rfl rfl (zo 21 rfl (cF h8) (zb (.bool (decide ((m : Int) = 8))) rfl ?_)))))
    by_cases h10 : (m : Int) = 8
    ·
     refine zo 24 rfl (cT h10) (zb (S s) rfl ?_)
     obtain ⟨c11, hx12⟩ : ∃ x_, s[((0 : Int)).toNat]? = some x_ := zN (by omega)
     have c11_lt := c11.toNat_lt
     refine zo 24 rfl (cT h10) (o_sidx Tryz.underlying9 rfl rfl (by omega) hx12 (zo 24 rfl (cT h10) (o_gtr (a := (c11.toNat : Int)) (b := 127) rfl rfl (zo 21 rfl (cF h8) (zq (u := (.bool (decide (127 < (c11.toNat : Int))))) ((rfl : _ = _).trans (cT h10)) rfl (za (zm (u := (.bool (decide (127 < (c11.toNat : Int))))) ((rfl : _ = _).trans (cF h8)) rfl (zf (ze (hK3 _ _ (zt rfl (fun h13 => ?_) (fun h13 => ?_))))))))))))
     ·
      refine yq fun K14 hK14 => (zd (za (zb (S s) rfl (za (zc (yi 0) rfl (za (zc (S s) rfl (za (zc (.bool false) rfl (zf (ze (hK14 _ _ (wp_ret (zx (c_ret3 Tryz.results276  (v := (yi 0)) rfl (x := (S s)) rfl (y := (.bool false)) rfl ?_)))))))))))))))
      exact ⟨by rw [takeS_no (by first | exact .inl (by omega) | exact .inr (.inl (by omega)) | exact .inr (.inr ⟨by omega, c11, by simpa using hx12, by omega⟩))], hH⟩
     ·
      refine wp_skip (ze (hK2 _ _ (yq fun K15 hK15 => (zd (za (zc (yi 0) rfl (zf (ze (hK15 _ _ (yq fun K16 hK16 => (yq fun K17 hK17 => (zd (za (zb (yi (m : Int)) rfl (za (zb (yi 0) rfl (zf (ze (hK17 _ _ (wp_block ?_))))))))))))))))))))
      let I19 : Nat → (Nat → Value) → World → Prop := fun n__ r__ w__ => ∃ (i : Nat) (y : Int), n__ = m - i ∧ Has E w__ [R] ∧ (i ≤ m) ∧ (y = beVal (s.take i)) ∧ r__ 0 = (S s) ∧ r__ 1 = (yi (m : Int)) ∧ r__ 4 = (yi 0) ∧ r__ 5 = (S ([] : List UInt8)) ∧ r__ 6 = (.bool false) ∧ r__ 7 = (yi y) ∧ r__ 29 = (.bool (decide (127 < (c11.toNat : Int)))) ∧ r__ 31 = (yi (m : Int)) ∧ r__ 32 = (yi (i : Int))
      refine zX I19 _ ⟨0, 0, rfl, hH, Nat.zero_le _, rfl, rfl, rfl, rfl, rfl, rfl, rfl, rfl, rfl, rfl⟩ ?_
      rintro n_ r22 w20 ⟨i, y, rfl, hH21, hi, hy, e18_0, e18_1, e18_4, e18_5, e18_6, e18_7, e18_29, e18_31, e18_32⟩
      have hb0 := beVal_nonneg (s.take i)
      have hb1 : i < m → beVal (s.take i) < 36028797018963968 := fun h => beVal_lt h (by omega) (by omega) (.inr (first_byte (by simpa using hx12) (by omega)))
      refine yq fun K23 hK23 => (zd (za (zL (a := (i : Int)) (b := (m : Int)) e18_32 e18_31 (zf (ze (hK23 _ _ (yq fun K24 hK24 => (zt rfl (fun h25 => ?_) (fun h25 => ?_)))))))))
      ·
       refine wp_skip (ze (hK24 _ _ (yq fun K26 hK26 => (wp_block (yq fun K27 hK27 => (zd (za (zb (yi (i : Int)) e18_32 (za (zc (yi (i : Int)) rfl (zf (ze (hK27 _ _ (zd (za (zb (yi y) e18_7 (za (o_shl (c := y * 256) rfl rfl (by omega) (shl_lit (by omega) (by omega) rfl) (za (zb (S s) e18_0 (za (zb (yi (i : Int)) rfl ?_))))))))))))))))))))))
       obtain ⟨c28, hx29⟩ : ∃ x_, s[((i : Int)).toNat]? = some x_ := zN (by omega)
       have c28_lt := c28.toNat_lt
       refine za (o_sidx Tryz.underlying9 rfl rfl (by omega) hx29 (za (o_conv Tryz.underlying5 Tryz.underlying3 rfl (w_u8 _) (za (o_or (c := y * 256 + (c28.toNat : Int)) rfl rfl (or8 (by omega) (by omega) _) (za (zc (yi (y * 256 + (c28.toNat : Int))) rfl (zf (zC (ze (hK26 _ _ (zd (za (zD (a := (i : Int)) (b := 1) e18_32 rfl (w64 (by omega) (by omega)) (za (zb (yi ((i : Int) + 1)) rfl (zf (ze ⟨m - (i + 1), _, rfl, ?_, ?_⟩))))))))))))))))))
       · omega
       · exact ⟨(i + 1), (y * 256 + (c28.toNat : Int)), rfl, hH21, (by omega), (by rw [zS (by simpa using hx29), beVal_snoc, ← hy]), e18_0, e18_1, e18_4, e18_5, e18_6, rfl, e18_29, e18_31, rfl⟩
      ·
       refine wp_exit (zy (zy (x_in ((ze (hK16 _ _ (yq fun K30 hK30 => (Rest.region mixed (by kernel_rfl) ?_))))))))
       have hH31 : Has E { w20 with drawn := w20.drawn + 1 } [R] := Has0.drew hH21 _
       refine Rest.phaseA (fun w_ => Has E w_ []) 0 5 5 rfl (by decide) (by kernel_rfl) (zn 0 rfl (by kernel_rfl) (fun w_ h_ => zb (yi y) e18_7 ⟨rfl, rfl⟩) (zn 1 rfl (by kernel_rfl) (fun w_ h_ => zb (S s) e18_0 ⟨rfl, rfl⟩) (zn 2 rfl (by kernel_rfl) (fun w_ h_ => zb (yi (m : Int)) e18_1 ⟨rfl, rfl⟩) (zn 3 rfl (by kernel_rfl) (fun w_ h_ => o_ssl_l Tryz.underlying9 rfl rfl (by omega) (by omega) ⟨rfl, rfl⟩) (zn 4 rfl (by kernel_rfl) (fun w_ h_ => zc (yi y) rfl ⟨rfl, rfl⟩) ?_)))))
       have hH32 := hH31.first 0 rfl
       refine zM (by kernel_rfl) hH32 (zO 5 rfl (by kernel_rfl) (zc (S (s.drop ((m : Int)).toNat)) rfl (zO 6 rfl (by kernel_rfl) (zc (.bool true) rfl (Rest.done (by kernel_rfl) (ze (hK30 _ _ (wp_ret (c_ret3 Tryz.results276  (v := (yi y)) rfl (x := (S (s.drop ((m : Int)).toNat))) rfl (y := (.bool true)) rfl ?_)))))))))
       have e : i = m := by omega
       rw [e] at hy
       exact ⟨by rw [takeS_yes (by omega) (by omega) (by omega) (.inr (first_byte (by simpa using hx12) (by omega))), hy]; rfl, hH31⟩
    ·
     refine zi (b' := false) 24 rfl (cF h10) rfl (zi (b' := false) 24 rfl (cF h10) rfl (zi (b' := false) 24 rfl (cF h10) rfl (zo 21 rfl (cF h8) (zm (u := (.bool false)) ((rfl : _ = _).trans (cF h10)) rfl (za (zm (u := (.bool false)) ((rfl : _ = _).trans (cF h8)) rfl (zf (ze (hK3 _ _ (zK rfl rfl (wp_skip (ze (hK2 _ _ (yq fun K33 hK33 => (zd (za (zc (yi 0) rfl (zf (ze (hK33 _ _ ?_))))))))))))))))))))
     refine yq fun K34 hK34 => (yq fun K35 hK35 => (zd (za (zb (yi (m : Int)) rfl (za (zb (yi 0) rfl (zf (ze (hK35 _ _ (wp_block ?_))))))))))
     let I37 : Nat → (Nat → Value) → World → Prop := fun n__ r__ w__ => ∃ (i : Nat) (y : Int), n__ = m - i ∧ Has E w__ [R] ∧ (i ≤ m) ∧ (y = beVal (s.take i)) ∧ r__ 0 = (S s) ∧ r__ 1 = (yi (m : Int)) ∧ r__ 4 = (yi 0) ∧ r__ 5 = (S ([] : List UInt8)) ∧ r__ 6 = (.bool false) ∧ r__ 7 = (yi y) ∧ r__ 29 = (.bool false) ∧ r__ 31 = (yi (m : Int)) ∧ r__ 32 = (yi (i : Int))
     refine zX I37 _ ⟨0, 0, rfl, hH, Nat.zero_le _, rfl, rfl, rfl, rfl, rfl, rfl, rfl, rfl, rfl, rfl⟩ ?_
     rintro n_ r40 w38 ⟨i, y, rfl, hH39, hi, hy, e36_0, e36_1, e36_4, e36_5, e36_6, e36_7, e36_29, e36_31, e36_32⟩
     have hb0 := beVal_nonneg (s.take i)
     have hb1 : i < m → beVal (s.take i) < 36028797018963968 := fun h => beVal_lt h (by omega) (by omega) (.inl (by omega))
     refine yq fun K41 hK41 => (zd (za (zL (a := (i : Int)) (b := (m : Int)) e36_32 e36_31 (zf (ze (hK41 _ _ (yq fun K42 hK42 => (zt rfl (fun h43 => ?_) (fun h43 => ?_)))))))))
     ·
      refine wp_skip (ze (hK42 _ _ (yq fun K44 hK44 => (wp_block (yq fun K45 hK45 => (zd (za (zb (yi (i : Int)) e36_32 (za (zc (yi (i : Int)) rfl (zf (ze (hK45 _ _ (zd (za (zb (yi y) e36_7 (za (o_shl (c := y * 256) rfl rfl (by omega) (shl_lit (by omega) (by omega) rfl) (za (zb (S s) e36_0 (za (zb (yi (i : Int)) rfl ?_))))))))))))))))))))))
      obtain ⟨c46, hx47⟩ : ∃ x_, s[((i : Int)).toNat]? = some x_ := zN (by omega)
      have c46_lt := c46.toNat_lt
      refine za (o_sidx Tryz.underlying9 rfl rfl (by omega) hx47 (za (o_conv Tryz.underlying5 Tryz.underlying3 rfl (w_u8 _) (za (o_or (c := y * 256 + (c46.toNat : Int)) rfl rfl (or8 (by omega) (by omega) _) (za (zc (yi (y * 256 + (c46.toNat : Int))) rfl (zf (zC (ze (hK44 _ _ (zd (za (zD (a := (i : Int)) (b := 1) e36_32 rfl (w64 (by omega) (by omega)) (za (zb (yi ((i : Int) + 1)) rfl (zf (ze ⟨m - (i + 1), _, rfl, ?_, ?_⟩))))))))))))))))))
      · omega
      · exact ⟨(i + 1), (y * 256 + (c46.toNat : Int)), rfl, hH39, (by omega), (by rw [zS (by simpa using hx47), beVal_snoc, ← hy]), e36_0, e36_1, e36_4, e36_5, e36_6, rfl, e36_29, e36_31, rfl⟩
     ·
      refine wp_exit (zy (zy (x_in ((ze (hK34 _ _ (yq fun K48 hK48 => (Rest.region mixed (by kernel_rfl) ?_))))))))
      have hH49 : Has E { w38 with drawn := w38.drawn + 1 } [R] := Has0.drew hH39 _
      refine Rest.phaseA (fun w_ => Has E w_ []) 0 5 5 rfl (by decide) (by kernel_rfl) (zn 0 rfl (by kernel_rfl) (fun w_ h_ => zb (yi y) e36_7 ⟨rfl, rfl⟩) (zn 1 rfl (by kernel_rfl) (fun w_ h_ => zb (S s) e36_0 ⟨rfl, rfl⟩) (zn 2 rfl (by kernel_rfl) (fun w_ h_ => zb (yi (m : Int)) e36_1 ⟨rfl, rfl⟩) (zn 3 rfl (by kernel_rfl) (fun w_ h_ => o_ssl_l Tryz.underlying9 rfl rfl (by omega) (by omega) ⟨rfl, rfl⟩) (zn 4 rfl (by kernel_rfl) (fun w_ h_ => zc (yi y) rfl ⟨rfl, rfl⟩) ?_)))))
      have hH50 := hH49.first 0 rfl
      refine zM (by kernel_rfl) hH50 (zO 5 rfl (by kernel_rfl) (zc (S (s.drop ((m : Int)).toNat)) rfl (zO 6 rfl (by kernel_rfl) (zc (.bool true) rfl (Rest.done (by kernel_rfl) (ze (hK48 _ _ (wp_ret (c_ret3 Tryz.results276  (v := (yi y)) rfl (x := (S (s.drop ((m : Int)).toNat))) rfl (y := (.bool true)) rfl ?_)))))))))
      have e : i = m := by omega
      rw [e] at hy
      exact ⟨by rw [takeS_yes (by omega) (by omega) (by omega) (.inl (by omega)), hy]; rfl, hH49⟩
end Go.Q
namespace Go.Q
open Go.Proofs
set_option linter.unusedVariables false
set_option maxRecDepth 100000
attribute [local irreducible] wpList OK Code.wp
theorem of2_c {E w : World} {R : List Hp} (hH : Has E w [R]) (hg : CellsAt R 0 0 nibV) {v : Value} {l : List (List UInt8)} (hv : Sl R 1 v l.length (l.map sV)) (hlb : ∀ x ∈ l, x.length ≤ 9223372036854775807) :
  Calls Tryz.prog 262 #[v] w fun e w' => e = .returned (.int .u32 ((crcS l.flatten).toNat : Int)) ∧ Has E w' [R] := by
 have hn := hv.le
 refine zs (args := [v]) Tryz.func262 rfl Tryz.ntmps262 (by simp) (yq fun K1 hK1 => (zd (za (zc (.int .u32 0) rfl (zf (ze (hK1 _ _ (yq fun K2 hK2 => (zd (za (zc (.int .u32 4294967295) rfl (zf (ze (hK2 _ _ (yq fun K3 hK3 => (yq fun K4 hK4 => (zd (za (zb v rfl ?_)))))))))))))))))))
 refine za (zQ Tryz.underlying46 rfl hv (za (zb (yi 0) rfl (zf (ze (hK4 _ _ (wp_block ?_)))))))
 let I6 : Nat → (Nat → Value) → World → Prop := fun n__ r__ w__ => ∃ (k : Nat) (r : BitVec 32), n__ = l.length - k ∧ Has E w__ [R] ∧ (k ≤ l.length) ∧ (r = crcF (4294967295#32) (l.take k).flatten) ∧ r__ 0 = v ∧ r__ 2 = (.int .u32 0) ∧ r__ 3 = (.int .u32 (r.toNat : Int)) ∧ r__ 7 = v ∧ r__ 8 = (yi ((l.length : Nat) : Int)) ∧ r__ 9 = (yi (k : Int))
 refine zX I6 _ ⟨0, (4294967295#32), rfl, hH, Nat.zero_le _, rfl, rfl, rfl, rfl, rfl, rfl, rfl⟩ ?_
 rintro n_ r9 w7 ⟨k, r, rfl, hH8, hk, hr, e5_0, e5_2, e5_3, e5_7, e5_8, e5_9⟩
 refine yq fun K10 hK10 => (zd (za (zL (a := (k : Int)) (b := ((l.length : Nat) : Int)) e5_9 e5_8 (zf (ze (hK10 _ _ (yq fun K11 hK11 => (zt rfl (fun h12 => ?_) (fun h12 => ?_)))))))))
 ·
  refine wp_skip (ze (hK11 _ _ (yq fun K13 hK13 => (wp_block (yq fun K14 hK14 => (zd ?_))))))
  obtain ⟨x18, hx19⟩ : ∃ x_, l[((k : Int)).toNat]? = some x_ := zN (by omega)
  refine za (z6 Tryz.underlying46 ti9 e5_7 hv e5_9 (by omega) hx19 fun b15 o16 hc17 => (za (zj (v := (S x18)) Tryz.underlying9 rfl rfl hH8 (zh 0 rfl) hc17 (za (zc (S x18) rfl (zf (ze (hK14 _ _ (yq fun K20 hK20 => (zd (za (zb (S x18) rfl (za (z8 Tryz.underlying9 rfl (za (zb (yi 0) rfl (zf (ze (hK20 _ _ (wp_block ?_))))))))))))))))))))
  have hxl := hlb x18 (List.mem_of_getElem? hx19)
  let I22 : Nat → (Nat → Value) → World → Prop := fun n__ r__ w__ => ∃ (j : Nat) (r2 : BitVec 32), n__ = x18.length - j ∧ Has E w__ [R] ∧ (j ≤ x18.length) ∧ (r2 = crcF r (x18.take j)) ∧ r__ 0 = v ∧ r__ 2 = (.int .u32 0) ∧ r__ 3 = (.int .u32 (r2.toNat : Int)) ∧ r__ 5 = (S x18) ∧ r__ 7 = v ∧ r__ 8 = (yi ((l.length : Nat) : Int)) ∧ r__ 9 = (yi (k : Int)) ∧ r__ 10 = (.bool (decide ((k : Int) < ((l.length : Nat) : Int)))) ∧ r__ 14 = (yi (x18.length : Int)) ∧ r__ 15 = (yi (j : Int))
  refine zX I22 _ ⟨0, r, rfl, hH8, Nat.zero_le _, rfl, e5_0, e5_2, e5_3, rfl, e5_7, e5_8, e5_9, rfl, rfl, rfl⟩ ?_
  rintro n_ r25 w23 ⟨j, r2, rfl, hH24, hj, hr2, e21_0, e21_2, e21_3, e21_5, e21_7, e21_8, e21_9, e21_10, e21_14, e21_15⟩
  refine yq fun K26 hK26 => (zd (za (zL (a := (j : Int)) (b := (x18.length : Int)) e21_15 e21_14 (zf (ze (hK26 _ _ (yq fun K27 hK27 => (zt rfl (fun h28 => ?_) (fun h28 => ?_)))))))))
  ·
   refine wp_skip (ze (hK27 _ _ (yq fun K29 hK29 => (wp_block (yq fun K30 hK30 => (zd (za (zb (yi (j : Int)) e21_15 (za (zc (yi (j : Int)) rfl (zf (ze (hK30 _ _ (yq fun K31 hK31 => (zd (za (zb (.int .u32 (r2.toNat : Int)) e21_3 (za (zb (S x18) e21_5 (za (zb (yi (j : Int)) rfl ?_)))))))))))))))))))))
   obtain ⟨c32, hx33⟩ : ∃ x_, x18[((j : Int)).toNat]? = some x_ := zN (by omega)
   have c32_lt := c32.toNat_lt
   refine za (o_sidx Tryz.underlying9 rfl rfl (by omega) hx33 (za (o_conv (c := ((b32 c32).toNat : Int)) Tryz.underlying5 Tryz.underlying349 rfl (conv_b32 _) (za (o_xor (a := ((r2).toNat : Int)) (b := (((b32 c32)).toNat : Int)) (c := ((r2 ^^^ (b32 c32)).toNat : Int)) rfl rfl (xor32 r2 (b32 c32)) (za (zc (.int .u32 ((r2 ^^^ (b32 c32)).toNat : Int)) rfl (zf (ze (hK31 _ _ (yq fun K34 hK34 => (zd (za (zb (.int .u32 ((r2 ^^^ (b32 c32)).toNat : Int)) rfl (za (o_shr (a := (((r2 ^^^ (b32 c32))).toNat : Int)) (b := ((4 : Nat) : Int)) (c := (((r2 ^^^ (b32 c32)) >>> 4).toNat : Int)) rfl rfl (by omega) (shr32 (r2 ^^^ (b32 c32)) 4 (by omega)) (za (zb (.int .u32 ((r2 ^^^ (b32 c32)).toNat : Int)) rfl (za (o_and (a := (((r2 ^^^ (b32 c32))).toNat : Int)) (b := ((15#32).toNat : Int)) (c := (((r2 ^^^ (b32 c32)) &&& 15#32).toNat : Int)) rfl rfl (and32 (r2 ^^^ (b32 c32)) (15#32)) (za (o_idxArr (i := ((r2 ^^^ (b32 c32)) &&& 15#32).toNat) Tryz.underlying406 ti349 rfl rfl (and15_lt _) (za (zj (v := (.int .u32 ((nib ((r2 ^^^ (b32 c32)) &&& 15#32).toNat).toNat : Int))) Tryz.underlying349 rfl rfl hH24 (zh 0 rfl) (nib_at hg (r2 ^^^ (b32 c32))) (za (o_xor (a := ((((r2 ^^^ (b32 c32)) >>> 4)).toNat : Int)) (b := (((nib ((r2 ^^^ (b32 c32)) &&& 15#32).toNat)).toNat : Int)) (c := ((((r2 ^^^ (b32 c32)) >>> 4) ^^^ (nib ((r2 ^^^ (b32 c32)) &&& 15#32).toNat)).toNat : Int)) rfl rfl (xor32 ((r2 ^^^ (b32 c32)) >>> 4) (nib ((r2 ^^^ (b32 c32)) &&& 15#32).toNat)) ?_))))))))))))))))))))))))))
   refine za (zc (.int .u32 ((((r2 ^^^ (b32 c32)) >>> 4) ^^^ (nib ((r2 ^^^ (b32 c32)) &&& 15#32).toNat)).toNat : Int)) rfl (zf (ze (hK34 _ _ (zd (za (zb (.int .u32 ((((r2 ^^^ (b32 c32)) >>> 4) ^^^ (nib ((r2 ^^^ (b32 c32)) &&& 15#32).toNat)).toNat : Int)) rfl (za (o_shr (a := (((((r2 ^^^ (b32 c32)) >>> 4) ^^^ (nib ((r2 ^^^ (b32 c32)) &&& 15#32).toNat))).toNat : Int)) (b := ((4 : Nat) : Int)) (c := (((((r2 ^^^ (b32 c32)) >>> 4) ^^^ (nib ((r2 ^^^ (b32 c32)) &&& 15#32).toNat)) >>> 4).toNat : Int)) rfl rfl (by omega) (shr32 (((r2 ^^^ (b32 c32)) >>> 4) ^^^ (nib ((r2 ^^^ (b32 c32)) &&& 15#32).toNat)) 4 (by omega)) (za (zb (.int .u32 ((((r2 ^^^ (b32 c32)) >>> 4) ^^^ (nib ((r2 ^^^ (b32 c32)) &&& 15#32).toNat)).toNat : Int)) rfl (za (o_and (a := (((((r2 ^^^ (b32 c32)) >>> 4) ^^^ (nib ((r2 ^^^ (b32 c32)) &&& 15#32).toNat))).toNat : Int)) (b := ((15#32).toNat : Int)) (c := (((((r2 ^^^ (b32 c32)) >>> 4) ^^^ (nib ((r2 ^^^ (b32 c32)) &&& 15#32).toNat)) &&& 15#32).toNat : Int)) rfl rfl (and32 (((r2 ^^^ (b32 c32)) >>> 4) ^^^ (nib ((r2 ^^^ (b32 c32)) &&& 15#32).toNat)) (15#32)) (za (o_idxArr (i := ((((r2 ^^^ (b32 c32)) >>> 4) ^^^ (nib ((r2 ^^^ (b32 c32)) &&& 15#32).toNat)) &&& 15#32).toNat) Tryz.underlying406 ti349 rfl rfl (and15_lt _) (za (zj (v := (.int .u32 ((nib ((((r2 ^^^ (b32 c32)) >>> 4) ^^^ (nib ((r2 ^^^ (b32 c32)) &&& 15#32).toNat)) &&& 15#32).toNat).toNat : Int))) Tryz.underlying349 rfl rfl hH24 (zh 0 rfl) (nib_at hg (((r2 ^^^ (b32 c32)) >>> 4) ^^^ (nib ((r2 ^^^ (b32 c32)) &&& 15#32).toNat))) (za (o_xor (a := ((((((r2 ^^^ (b32 c32)) >>> 4) ^^^ (nib ((r2 ^^^ (b32 c32)) &&& 15#32).toNat)) >>> 4)).toNat : Int)) (b := (((nib ((((r2 ^^^ (b32 c32)) >>> 4) ^^^ (nib ((r2 ^^^ (b32 c32)) &&& 15#32).toNat)) &&& 15#32).toNat)).toNat : Int)) (c := ((((((r2 ^^^ (b32 c32)) >>> 4) ^^^ (nib ((r2 ^^^ (b32 c32)) &&& 15#32).toNat)) >>> 4) ^^^ (nib ((((r2 ^^^ (b32 c32)) >>> 4) ^^^ (nib ((r2 ^^^ (b32 c32)) &&& 15#32).toNat)) &&& 15#32).toNat)).toNat : Int)) rfl rfl (xor32 ((((r2 ^^^ (b32 c32)) >>> 4) ^^^ (nib ((r2 ^^^ (b32 c32)) &&& 15#32).toNat)) >>> 4) (nib ((((r2 ^^^ (b32 c32)) >>> 4) ^^^ (nib ((r2 ^^^ (b32 c32)) &&& 15#32).toNat)) &&& 15#32).toNat)) (za (zc (.int .u32 ((((((r2 ^^^ (b32 c32)) >>> 4) ^^^ (nib ((r2 ^^^ (b32 c32)) &&& 15#32).toNat)) >>> 4) ^^^ (nib ((((r2 ^^^ (b32 c32)) >>> 4) ^^^ (nib ((r2 ^^^ (b32 c32)) &&& 15#32).toNat)) &&& 15#32).toNat)).toNat : Int)) rfl (zf (zC (ze (hK29 _ _ ?_)))))))))))))))))))))))))
   refine zd (za (zD (a := (j : Int)) (b := 1) e21_15 rfl (w64 (by omega) (by omega)) (za (zb (yi ((j : Int) + 1)) rfl (zf (ze ⟨x18.length - (j + 1), _, rfl, ?_, ?_⟩))))))
   · omega
   · exact ⟨(j + 1), (((((r2 ^^^ (b32 c32)) >>> 4) ^^^ (nib ((r2 ^^^ (b32 c32)) &&& 15#32).toNat)) >>> 4) ^^^ (nib ((((r2 ^^^ (b32 c32)) >>> 4) ^^^ (nib ((r2 ^^^ (b32 c32)) &&& 15#32).toNat)) &&& 15#32).toNat)), rfl, hH24, (by omega), (by rw [zS (show x18[j]? = some _ from hx33), crcF_snoc, ← hr2, cby_nib]), e21_0, e21_2, rfl, e21_5, e21_7, e21_8, e21_9, e21_10, e21_14, rfl⟩
  ·
   refine wp_exit (zy (zy (x_in ((zC (ze (hK13 _ _ (zd (za (zD (a := (k : Int)) (b := 1) e21_9 rfl (w64 (by omega) (by omega)) (za (zb (yi ((k : Int) + 1)) rfl (zf (ze ⟨l.length - (k + 1), _, rfl, ?_, ?_⟩))))))))))))))
   · omega
   · exact ⟨(k + 1), r2, rfl, hH24, (by omega), (by rw [zS (show l[k]? = some _ from hx19), List.flatten_append, crcF_append, ← hr, hr2, show j = x18.length from by omega, List.take_length]; simp), e21_0, e21_2, e21_3, e21_7, e21_8, rfl⟩
 ·
  refine wp_exit (zy (zy (x_in ((ze (hK3 _ _ (yq fun K35 hK35 => (zd (za (zb (.int .u32 (r.toNat : Int)) e5_3 (za (o_compl (a := r) Tryz.underlying349 rfl (za (zc (.int .u32 ((~~~ r).toNat : Int)) rfl (zf (ze (hK35 _ _ (wp_ret (zr Tryz.results262  (v := (.int .u32 ((~~~ r).toNat : Int))) rfl ?_)))))))))))))))))))
  have e : k = l.length := by omega
  rw [e, List.take_length] at hr
  subst hr
  exact ⟨rfl, hH8⟩
theorem refsum_c {E w : World} {R : List Hp} (hH : Has E w [R]) (t : List UInt8) (hl : t.length ≤ 9223372036854775807) :
  Calls Tryz.prog 327 #[(S t)] w fun e w' => e = .returned (.int .u32 ((crcS t).toNat : Int)) ∧ Has E w' [R] := by
 refine zs (args := [(S t)]) Tryz.func327 rfl Tryz.ntmps327 (by simp) (yq fun K1 hK1 => (zd (za (zc (.int .u32 0) rfl (zf (ze (hK1 _ _ (yq fun K2 hK2 => (zd (za (zc (.int .u32 4294967295) rfl (zf (ze (hK2 _ _ (yq fun K3 hK3 => (yq fun K4 hK4 => (zd (za (zc (yi 0) rfl ?_)))))))))))))))))))
 refine zf (ze (hK4 _ _ (wp_block ?_)))
 let I6 : Nat → (Nat → Value) → World → Prop := fun n__ r__ w__ => ∃ (k : Nat) (r : BitVec 32), n__ = t.length - k ∧ Has E w__ [R] ∧ (k ≤ t.length) ∧ (r = crcF (4294967295#32) (t.take k)) ∧ r__ 0 = (S t) ∧ r__ 2 = (.int .u32 0) ∧ r__ 3 = (.int .u32 (r.toNat : Int)) ∧ r__ 4 = (yi (k : Int))
 refine zX I6 _ ⟨0, (4294967295#32), rfl, hH, Nat.zero_le _, rfl, rfl, rfl, rfl, rfl⟩ ?_
 rintro n_ r9 w7 ⟨k, r, rfl, hH8, hk, hr, e5_0, e5_2, e5_3, e5_4⟩
 refine yq fun K10 hK10 => (yq fun K11 hK11 => (zd (za (zb (yi (k : Int)) e5_4 (za (zb (S t) e5_0 (za (z8 Tryz.underlying9 rfl (za (zL (a := (k : Int)) (b := (t.length : Int)) rfl rfl (zf (ze (hK11 _ _ (zt rfl (fun h12 => ?_) (fun h12 => ?_)))))))))))))))
 ·
  refine wp_skip (ze (hK10 _ _ (yq fun K13 hK13 => (wp_block (yq fun K14 hK14 => (zd (za (zc (yi 0) rfl (zf (ze (hK14 _ _ (wp_block ?_))))))))))))
  obtain ⟨ch, hch⟩ : ∃ x_, t[((k : Int)).toNat]? = some x_ := zN (by omega)
  have hch_lt := ch.toNat_lt
  let I16 : Nat → (Nat → Value) → World → Prop := fun n__ r__ w__ => ∃ (j : Nat) (r2 : BitVec 32), n__ = 8 - j ∧ Has E w__ [R] ∧ (j ≤ 8) ∧ (r2 ^^^ (b32 ch >>> j) = cbs j (r ^^^ b32 ch)) ∧ r__ 0 = (S t) ∧ r__ 2 = (.int .u32 0) ∧ r__ 3 = (.int .u32 (r2.toNat : Int)) ∧ r__ 4 = (yi (k : Int)) ∧ r__ 5 = (yi (j : Int)) ∧ r__ 10 = (.bool (decide ((k : Int) < (t.length : Int))))
  refine zX I16 _ ⟨0, r, rfl, hH8, (by omega), (by simp [cbs]), e5_0, e5_2, e5_3, e5_4, rfl, rfl⟩ ?_
  rintro n_ r19 w17 ⟨j, r2, rfl, hH18, hj, hr2, e15_0, e15_2, e15_3, e15_4, e15_5, e15_10⟩
  refine yq fun K20 hK20 => (yq fun K21 hK21 => (zd (za (zb (yi (j : Int)) e15_5 (za (zL (a := (j : Int)) (b := 8) rfl rfl (zf (ze (hK21 _ _ (zt rfl (fun h22 => ?_) (fun h22 => ?_)))))))))))
  ·
   refine wp_skip (ze (hK20 _ _ (yq fun K23 hK23 => (wp_block (yq fun K24 hK24 => (zd (za (zb (.int .u32 (r2.toNat : Int)) e15_3 (za (o_rem (a := (r2.toNat : Int)) (b := 2) (c := (r2.toNat : Int) % 2) rfl rfl (by omega) ((Int.tmod_eq_emod_of_nonneg (by first | exact Int.natCast_nonneg _ | omega))) (za (zb (S t) e15_0 (za (zb (yi (k : Int)) e15_4 (za (o_sidx Tryz.underlying9 rfl rfl (by omega) hch (za (zb (yi (j : Int)) e15_5 (za (o_shr (a := (ch.toNat : Int)) (b := ((j : Nat) : Int)) (c := ((ch.toNat >>> j : Nat) : Int)) rfl rfl (by omega) (shr8 ch j (by omega)) (za (o_rem (a := ((ch.toNat >>> j : Nat) : Int)) (b := 2) (c := ((ch.toNat >>> j : Nat) : Int) % 2) rfl rfl (by omega) ((Int.tmod_eq_emod_of_nonneg (by first | exact Int.natCast_nonneg _ | omega))) (za (o_conv (c := (((ch.toNat >>> j : Nat) : Int) % 2)) Tryz.underlying5 Tryz.underlying349 rfl (wrap_u32 (by omega) (by omega)) ?_))))))))))))))))))))))))
   refine za (o_neq (a := (r2.toNat : Int) % 2) (b := ((ch.toNat >>> j : Nat) : Int) % 2) rfl rfl (za (zc (.bool (decide ((r2.toNat : Int) % 2 ≠ ((ch.toNat >>> j : Nat) : Int) % 2))) rfl (zf (ze (hK24 _ _ (yq fun K25 hK25 => (zd (za (zb (.int .u32 (r2.toNat : Int)) e15_3 (za (o_quo (a := ((r2).toNat : Int)) (b := ((2 : Nat) : Int)) (c := ((r2 >>> 1).toNat : Int)) rfl rfl (by decide) (quo32 r2 2 1 (by decide)) (za (zc (.int .u32 ((r2 >>> 1).toNat : Int)) rfl (zf (ze (hK25 _ _ (yq fun K26 hK26 => (zd (za (zb (.bool (decide ((r2.toNat : Int) % 2 ≠ ((ch.toNat >>> j : Nat) : Int) % 2))) rfl (zf ?_))))))))))))))))))))))
   refine ze (hK26 _ _ (zt rfl (fun h27 => ?_) (fun h27 => ?_)))
   ·
    refine zd (za (zb (.int .u32 ((r2 >>> 1).toNat : Int)) rfl (za (o_xor (a := (((r2 >>> 1)).toNat : Int)) (b := ((3988292384#32).toNat : Int)) (c := (((r2 >>> 1) ^^^ 3988292384#32).toNat : Int)) rfl rfl (xor32 (r2 >>> 1) (3988292384#32)) (za (zc (.int .u32 (((r2 >>> 1) ^^^ 3988292384#32).toNat : Int)) rfl (zf (zC (ze (hK23 _ _ (zd (za (zb (yi (j : Int)) e15_5 (za (zD (a := (j : Int)) (b := 1) rfl rfl (w64 (by omega) (by omega)) (za (zc (yi ((j : Int) + 1)) rfl (zf (ze ⟨8 - (j + 1), _, rfl, ?_, ?_⟩)))))))))))))))))))
    · omega
    · exact ⟨(j + 1), ((r2 >>> 1) ^^^ 3988292384#32), rfl, hH18, (by omega), (bits_yes hr2 (by assumption) (by omega)), e15_0, e15_2, rfl, e15_4, rfl, e15_10⟩
   ·
    refine wp_skip (zC (ze (hK23 _ _ (zd (za (zb (yi (j : Int)) e15_5 (za (zD (a := (j : Int)) (b := 1) rfl rfl (w64 (by omega) (by omega)) (za (zc (yi ((j : Int) + 1)) rfl (zf (ze ⟨8 - (j + 1), _, rfl, ?_, ?_⟩))))))))))))
    · omega
    · exact ⟨(j + 1), (r2 >>> 1), rfl, hH18, (by omega), (bits_no hr2 (by assumption) (by omega)), e15_0, e15_2, rfl, e15_4, rfl, e15_10⟩
  ·
   refine wp_exit (zy (zy (x_in ((zC (ze (hK13 _ _ (zd (za (zb (yi (k : Int)) e15_4 (za (zD (a := (k : Int)) (b := 1) rfl rfl (w64 (by omega) (by omega)) (za (zc (yi ((k : Int) + 1)) rfl (zf (ze ⟨t.length - (k + 1), _, rfl, ?_, ?_⟩))))))))))))))))
   · omega
   · exact ⟨(k + 1), r2, rfl, hH18, (by omega), (by rw [zS (show t[k]? = some _ from hch), crcF_snoc, ← hr]; exact bits_done hr2 (by omega)), e15_0, e15_2, e15_3, rfl⟩
 ·
  refine wp_exit (zy (zy (x_in ((ze (hK3 _ _ (yq fun K28 hK28 => (zd (za (zb (.int .u32 (r.toNat : Int)) e5_3 (za (o_sub (c := ((~~~ r).toNat : Int)) rfl rfl (sub32 r) (za (zc (.int .u32 ((~~~ r).toNat : Int)) rfl (zf (ze (hK28 _ _ (wp_ret (zr Tryz.results327  (v := (.int .u32 ((~~~ r).toNat : Int))) rfl ?_)))))))))))))))))))
  have e : k = t.length := by omega
  rw [e, List.take_length] at hr
  subst hr
  exact ⟨rfl, hH8⟩
end Go.Q
namespace Go.Q
open Go.Proofs
set_option linter.unusedVariables false
set_option maxRecDepth 100000
attribute [local irreducible] wpList OK Code.wp
theorem laid_c {E w : World} {R : List Hp} (hH : Has E w [R]) (hg : CellsAt R 0 0 nibV) {v : Value} {l : List (List UInt8)} (hv : Sl R 1 v l.length (l.map sV)) (hlb : ∀ x ∈ l, x.length ≤ 9223372036854775807) :
  Calls Tryz.prog 175 #[v] w fun e w' => e = .returned (S (laidS (crcS l.flatten))) ∧ Has E w' [R] := by
 refine zs (args := [v]) Tryz.func175 rfl Tryz.ntmps175 (by simp) (yq fun K1 hK1 => (zd (za (zc (S ([] : List UInt8)) rfl (zf (ze (hK1 _ _ (yq fun K2 hK2 => (zd (za (zb v rfl (za (zk (vs := #[v]) ca262 rfl (zI rfl) (of2_c hH.all (hg.mono (zh 0 rfl)) (hv.mono (zh 0 rfl)) hlb) ?_)))))))))))))
 rintro _ w5 ⟨rfl, hX3⟩
 refine ⟨_, rfl, ?_⟩
 have hH4 := hX3.of_all
 refine za (zc (.int .u32 ((crcS l.flatten).toNat : Int)) rfl (zf (ze (hK2 _ _ (yq fun K6 hK6 => (zd (za (zb (.int .u32 ((crcS l.flatten).toNat : Int)) rfl (za (o_conv (c := ((lo8 (crcS l.flatten)).toNat : Int)) Tryz.underlying349 Tryz.underlying5 rfl (conv_lo8 _) (za (zb (.int .u32 ((crcS l.flatten).toNat : Int)) rfl (za (o_shr (a := (((crcS l.flatten)).toNat : Int)) (b := ((8 : Nat) : Int)) (c := (((crcS l.flatten) >>> 8).toNat : Int)) rfl rfl (by omega) (shr32 (crcS l.flatten) 8 (by omega)) (za (o_conv (c := ((lo8 ((crcS l.flatten) >>> 8)).toNat : Int)) Tryz.underlying349 Tryz.underlying5 rfl (conv_lo8 _) (za (zb (.int .u32 ((crcS l.flatten).toNat : Int)) rfl (za (o_shr (a := (((crcS l.flatten)).toNat : Int)) (b := ((16 : Nat) : Int)) (c := (((crcS l.flatten) >>> 16).toNat : Int)) rfl rfl (by omega) (shr32 (crcS l.flatten) 16 (by omega)) (za (o_conv (c := ((lo8 ((crcS l.flatten) >>> 16)).toNat : Int)) Tryz.underlying349 Tryz.underlying5 rfl (conv_lo8 _) (za (zb (.int .u32 ((crcS l.flatten).toNat : Int)) rfl (za (o_shr (a := (((crcS l.flatten)).toNat : Int)) (b := ((24 : Nat) : Int)) (c := (((crcS l.flatten) >>> 24).toNat : Int)) rfl rfl (by omega) (shr32 (crcS l.flatten) 24 (by omega)) ?_))))))))))))))))))))))))))
 refine za (o_conv (c := ((lo8 ((crcS l.flatten) >>> 24)).toNat : Int)) Tryz.underlying349 Tryz.underlying5 rfl (conv_lo8 _) (za (zw (ps := #[(0, (bV (lo8 (crcS l.flatten)))), (1, (bV (lo8 ((crcS l.flatten) >>> 8)))), (2, (bV (lo8 ((crcS l.flatten) >>> 16)))), (3, (bV (lo8 ((crcS l.flatten) >>> 24))))]) (cells := #[(bV (lo8 (crcS l.flatten))), (bV (lo8 ((crcS l.flatten) >>> 8))), (bV (lo8 ((crcS l.flatten) >>> 16))), (bV (lo8 ((crcS l.flatten) >>> 24)))]) Tryz.underlying30 ti5 (by decide) (parts4 rfl rfl rfl rfl) (by kernel_rfl) hH4 fun b7 w8 hH9 => (za (o_bstr Tryz.underlying30 Tryz.underlying5 Tryz.underlying9 rfl (zW (f := bV) (l := [(lo8 (crcS l.flatten)), (lo8 ((crcS l.flatten) >>> 8)), (lo8 ((crcS l.flatten) >>> 16)), (lo8 ((crcS l.flatten) >>> 24))]) rfl rfl (by simp)) hH9 (zh 0 rfl) (za (zc (S [(lo8 (crcS l.flatten)), (lo8 ((crcS l.flatten) >>> 8)), (lo8 ((crcS l.flatten) >>> 16)), (lo8 ((crcS l.flatten) >>> 24))]) rfl (zf (ze (hK6 _ _ (wp_ret (zr Tryz.results175  (v := (S [(lo8 (crcS l.flatten)), (lo8 ((crcS l.flatten) >>> 8)), (lo8 ((crcS l.flatten) >>> 16)), (lo8 ((crcS l.flatten) >>> 24))])) rfl ?_))))))))))))
 have hH10 := (hH9.front 1 rfl).first 1 rfl
 exact ⟨rfl, hH10⟩
theorem reflaid_c {E w : World} {R : List Hp} (hH : Has E w [R]) (t : List UInt8) (hl : t.length ≤ 9223372036854775807) :
  Calls Tryz.prog 267 #[(S t)] w fun e w' => e = .returned (S (laidS (crcS t))) ∧ Has E w' [R] := by
 refine zs (args := [(S t)]) Tryz.func267 rfl Tryz.ntmps267 (by simp) (yq fun K1 hK1 => (zd (za (zc (S ([] : List UInt8)) rfl (zf (ze (hK1 _ _ (yq fun K2 hK2 => (zd (za (zb (S t) rfl (za (zk (vs := #[(S t)]) ca327 rfl (zI rfl) (refsum_c hH.all t hl) ?_)))))))))))))
 rintro _ w5 ⟨rfl, hX3⟩
 refine ⟨_, rfl, ?_⟩
 have hH4 := hX3.of_all
 refine za (zc (.int .u32 ((crcS t).toNat : Int)) rfl (zf (ze (hK2 _ _ (yq fun K6 hK6 => (zd (za (zb (.int .u32 ((crcS t).toNat : Int)) rfl (za (o_rem (a := ((crcS t).toNat : Int)) (b := 256) (c := ((crcS t).toNat : Int) % 256) rfl rfl (by omega) ((Int.tmod_eq_emod_of_nonneg (by first | exact Int.natCast_nonneg _ | omega))) (za (o_conv (c := ((by8 (((crcS t).toNat : Int) % 256)).toNat : Int)) Tryz.underlying349 Tryz.underlying5 rfl (wrap_by8 _) (za (zb (.int .u32 ((crcS t).toNat : Int)) rfl (za (o_quo (a := (((crcS t)).toNat : Int)) (b := ((256 : Nat) : Int)) (c := (((crcS t) >>> 8).toNat : Int)) rfl rfl (by decide) (quo32 (crcS t) 256 8 (by decide)) (za (o_rem (a := (((crcS t) >>> 8).toNat : Int)) (b := 256) (c := (((crcS t) >>> 8).toNat : Int) % 256) rfl rfl (by omega) ((Int.tmod_eq_emod_of_nonneg (by first | exact Int.natCast_nonneg _ | omega))) (za (o_conv (c := ((by8 ((((crcS t) >>> 8).toNat : Int) % 256)).toNat : Int)) Tryz.underlying349 Tryz.underlying5 rfl (wrap_by8 _) (za (zb (.int .u32 ((crcS t).toNat : Int)) rfl (za (o_quo (a := (((crcS t)).toNat : Int)) (b := ((65536 : Nat) : Int)) (c := (((crcS t) >>> 16).toNat : Int)) rfl rfl (by decide) (quo32 (crcS t) 65536 16 (by decide)) (za (o_rem (a := (((crcS t) >>> 16).toNat : Int)) (b := 256) (c := (((crcS t) >>> 16).toNat : Int) % 256) rfl rfl (by omega) ((Int.tmod_eq_emod_of_nonneg (by first | exact Int.natCast_nonneg _ | omega))) ?_))))))))))))))))))))))))))
 refine za (o_conv (c := ((by8 ((((crcS t) >>> 16).toNat : Int) % 256)).toNat : Int)) Tryz.underlying349 Tryz.underlying5 rfl (wrap_by8 _) (za (zb (.int .u32 ((crcS t).toNat : Int)) rfl (za (o_quo (a := (((crcS t)).toNat : Int)) (b := ((16777216 : Nat) : Int)) (c := (((crcS t) >>> 24).toNat : Int)) rfl rfl (by decide) (quo32 (crcS t) 16777216 24 (by decide)) (za (o_conv (c := ((lo8 ((crcS t) >>> 24)).toNat : Int)) Tryz.underlying349 Tryz.underlying5 rfl (conv_lo8 _) (za (zw (ps := #[(0, (bV (by8 (((crcS t).toNat : Int) % 256)))), (1, (bV (by8 ((((crcS t) >>> 8).toNat : Int) % 256)))), (2, (bV (by8 ((((crcS t) >>> 16).toNat : Int) % 256)))), (3, (bV (lo8 ((crcS t) >>> 24))))]) (cells := #[(bV (by8 (((crcS t).toNat : Int) % 256))), (bV (by8 ((((crcS t) >>> 8).toNat : Int) % 256))), (bV (by8 ((((crcS t) >>> 16).toNat : Int) % 256))), (bV (lo8 ((crcS t) >>> 24)))]) Tryz.underlying30 ti5 (by decide) (parts4 rfl rfl rfl rfl) (by kernel_rfl) hH4 fun b7 w8 hH9 => (za (o_bstr Tryz.underlying30 Tryz.underlying5 Tryz.underlying9 rfl (zW (f := bV) (l := [(by8 (((crcS t).toNat : Int) % 256)), (by8 ((((crcS t) >>> 8).toNat : Int) % 256)), (by8 ((((crcS t) >>> 16).toNat : Int) % 256)), (lo8 ((crcS t) >>> 24))]) rfl rfl (by simp)) hH9 (zh 0 rfl) (za (zc (S [(by8 (((crcS t).toNat : Int) % 256)), (by8 ((((crcS t) >>> 8).toNat : Int) % 256)), (by8 ((((crcS t) >>> 16).toNat : Int) % 256)), (lo8 ((crcS t) >>> 24))]) rfl (zf (ze (hK6 _ _ (wp_ret (zr Tryz.results267  (v := (S [(by8 (((crcS t).toNat : Int) % 256)), (by8 ((((crcS t) >>> 8).toNat : Int) % 256)), (by8 ((((crcS t) >>> 16).toNat : Int) % 256)), (lo8 ((crcS t) >>> 24))])) rfl ?_))))))))))))))))))
 have hH10 := (hH9.front 1 rfl).first 1 rfl
 exact ⟨by rw [laidS_ref], hH10⟩
theorem seal_c {E w : World} {R : List Hp} (hH : Has E w [R]) (hg : CellsAt R 0 0 nibV) {v : Value} {l : List (List UInt8)} (hv : Sl R 1 v l.length (l.map sV)) (hn : l.length ≤ 1000000) (hl : l.flatten.length ≤ 1000000000) :
  Calls Tryz.prog 89 #[v] w fun e w' => e = .returned (S (sealS l.flatten)) ∧ Has E w' [R] := by
 refine zs (args := [v]) Tryz.func89 rfl Tryz.ntmps89 (by simp) (yq fun K1 hK1 => (zd (za (zc (S ([] : List UInt8)) rfl (zf (ze (hK1 _ _ (yq fun K2 hK2 => (zd (za (zb v rfl (za (zk (vs := #[v, (S ([] : List UInt8))]) ca118 rfl (zF rfl rfl) (join_c hH.all (hv.mono (zh 0 rfl)) hn (by omega)) ?_)))))))))))))
 rintro _ w5 ⟨rfl, hX3⟩
 refine ⟨_, rfl, ?_⟩
 have hH4 := hX3.of_all
 refine za (zb v rfl (za (zk (vs := #[v]) ca175 rfl (zI rfl) (laid_c hH4.all (hg.mono (zh 0 rfl)) (hv.mono (zh 0 rfl)) (fun x hx => by have := flat_le hx; omega)) ?_)))
 rintro _ w8 ⟨rfl, hX6⟩
 refine ⟨_, rfl, ?_⟩
 have hH7 := hX6.of_all
 refine za (o_sadd rfl rfl (by rw [ye]; omega) (za (zc (S (l.flatten ++ (laidS (crcS l.flatten)))) rfl (zf (ze (hK2 _ _ (wp_ret (zr Tryz.results89  (v := (S (l.flatten ++ (laidS (crcS l.flatten))))) rfl ?_))))))))
 exact ⟨rfl, hH7⟩
end Go.Q
namespace Go.Q
open Go.Proofs
set_option linter.unusedVariables false
set_option maxRecDepth 100000
attribute [local irreducible] wpList OK Code.wp
theorem hright_c {E w : World} {R : List Hp} {h : Hd}  (hH : Has E w [R]) :
  Calls Tryz.prog 88 #[(.agg (yH h))] w fun e w' => e = .returned (.bool (hdR h)) ∧ Has E w' [R] := by
 refine zs (args := [(.agg (yH h))]) Tryz.func88 rfl Tryz.ntmps88 (by simp) (yq fun K1 hK1 => (zd (za (o_box (cs := (yH h)) rfl rfl hH fun b2 w3 hH4 => (za (zc (.bool false) rfl (zf (ze (hK1 _ _ (yq fun K5 hK5 => (zd (za (zg (k := 0) (fun _ => by kernel_rfl) rfl (za (zj (v := (yi h.seq)) Tryz.underlying3 rfl rfl hH4 (zh 0 rfl) (CellsAt.one rfl) (za (zg (k := 1) (fun _ => by kernel_rfl) rfl (za (zj (v := (yi h.ep)) Tryz.underlying3 rfl rfl hH4 (zh 0 rfl) (CellsAt.one rfl) (za (zg (k := 2) (fun _ => by kernel_rfl) rfl (za (zj (v := (yi h.cut)) Tryz.underlying3 rfl rfl hH4 (zh 0 rfl) (CellsAt.one rfl) ?_)))))))))))))))))))))))
 refine za (zg (k := 3) (fun _ => by kernel_rfl) rfl (za (zj (v := (yi h.st)) Tryz.underlying3 rfl rfl hH4 (zh 0 rfl) (CellsAt.one rfl) (za (zg (k := 4) (fun _ => by kernel_rfl) rfl (za (zj (v := (yi h.mrk)) Tryz.underlying3 rfl rfl hH4 (zh 0 rfl) (CellsAt.one rfl) (za (zw (ps := #[(0, (yi h.ep)), (1, (yi h.cut)), (2, (yi h.st)), (3, (yi h.mrk))]) (cells := #[(yi h.ep), (yi h.cut), (yi h.st), (yi h.mrk)]) Tryz.underlying47 ti3 (by decide) (parts4 rfl rfl rfl rfl) (by kernel_rfl) hH4 fun b6 w7 hH8 => (za (zk (vs := #[(yi h.seq), (.slice (some ⟨b6, 0, none⟩) 4 4)]) ca174 rfl (zF rfl rfl) (least_c hH8.all (l := [h.ep, h.cut, h.st, h.mrk]) h.seq ((zW (f := iV) (l := [h.ep, h.cut, h.st, h.mrk]) rfl rfl (by simp)).mono (zh 0 rfl))) ?_)))))))))))
 rintro _ w11 ⟨rfl, hX9⟩
 refine ⟨_, rfl, ?_⟩
 have hH10 := hX9.of_all
 refine za (o_geq (a := [h.ep, h.cut, h.st, h.mrk].foldl min h.seq) (b := 0) rfl rfl (za (zb (.bool (decide (0 ≤ [h.ep, h.cut, h.st, h.mrk].foldl min h.seq))) rfl ?_)))
 by_cases h12 : 0 ≤ [h.ep, h.cut, h.st, h.mrk].foldl min h.seq
 ·
  refine zo 16 rfl (cT h12) (zg (k := 1) (fun _ => by kernel_rfl) rfl (zo 16 rfl (cT h12) (zj (v := (yi h.ep)) Tryz.underlying3 rfl rfl hH10 (zh 1 rfl) (CellsAt.one rfl) (zo 16 rfl (cT h12) (o_leq (a := h.ep) (b := 2147483647) rfl rfl (za (zq (u := (.bool (decide (h.ep ≤ 2147483647)))) ((rfl : _ = _).trans (cT h12)) rfl (za (zb (.bool (decide (h.ep ≤ 2147483647))) rfl ?_)))))))))
  by_cases h13 : h.ep ≤ 2147483647
  ·
   refine zo 21 rfl (cT h13) (zg (k := 0) (fun _ => by kernel_rfl) rfl (zo 21 rfl (cT h13) (zj (v := (yi h.seq)) Tryz.underlying3 rfl rfl hH10 (zh 1 rfl) (CellsAt.one rfl) (zo 21 rfl (cT h13) (zg (k := 2) (fun _ => by kernel_rfl) rfl (zo 21 rfl (cT h13) (zj (v := (yi h.cut)) Tryz.underlying3 rfl rfl hH10 (zh 1 rfl) (CellsAt.one rfl) (zo 21 rfl (cT h13) (zg (k := 3) (fun _ => by kernel_rfl) rfl (zo 21 rfl (cT h13) (zj (v := (yi h.st)) Tryz.underlying3 rfl rfl hH10 (zh 1 rfl) (CellsAt.one rfl) (zo 21 rfl (cT h13) (zg (k := 4) (fun _ => by kernel_rfl) rfl (zo 21 rfl (cT h13) (zj (v := (yi h.mrk)) Tryz.underlying3 rfl rfl hH10 (zh 1 rfl) (CellsAt.one rfl) (zo 21 rfl (cT h13) (zw (ps := #[(0, (yi h.cut)), (1, (yi h.st)), (2, (yi h.mrk))]) (cells := #[(yi h.cut), (yi h.st), (yi h.mrk)]) Tryz.underlying47 ti3 (by decide) (parts3 rfl rfl rfl) (by kernel_rfl) hH10 fun b14 w15 hH16 => (zo 21 rfl (cT h13) (zk (vs := #[(yi h.seq), (.slice (some ⟨b14, 0, none⟩) 3 3)]) ca117 rfl (zF rfl rfl) (most_c hH16.all (l := [h.cut, h.st, h.mrk]) h.seq ((zW (f := iV) (l := [h.cut, h.st, h.mrk]) rfl rfl (by simp)).mono (zh 0 rfl))) ?_)))))))))))))))))))
   rintro _ w19 ⟨rfl, hX17⟩
   refine ⟨_, rfl, ?_⟩
   have hH18 := hX17.of_all
   refine zo 21 rfl (cT h13) (o_leq (a := [h.cut, h.st, h.mrk].foldl max h.seq) (b := 4611686018427387903) rfl rfl (za (zq (u := (.bool (decide ([h.cut, h.st, h.mrk].foldl max h.seq ≤ 4611686018427387903)))) ((rfl : _ = _).trans (cT h13)) rfl (za (zc (.bool (decide ([h.cut, h.st, h.mrk].foldl max h.seq ≤ 4611686018427387903))) rfl (zf (ze (hK5 _ _ (wp_ret (zr Tryz.results88  (v := (.bool (decide ([h.cut, h.st, h.mrk].foldl max h.seq ≤ 4611686018427387903)))) rfl ?_))))))))))
   have q20 : (hdR h) = decide ([h.cut, h.st, h.mrk].foldl max h.seq ≤ 4611686018427387903) := by unfold hdR; first | (rw [decide_eq_decide]; simp only [List.foldl_cons, List.foldl_nil] at *; omega) | (rw [decide_eq_false_iff_not]; simp only [List.foldl_cons, List.foldl_nil] at *; omega)
   have hH21 := (hH18.front 3 rfl).first 1 rfl
   exact ⟨by rw [q20], hH21⟩
  ·
   refine zi (b' := false) 21 rfl (cF h13) rfl (zi (b' := false) 21 rfl (cF h13) rfl (zi (b' := false) 21 rfl (cF h13) rfl (zi (b' := false) 21 rfl (cF h13) rfl (zi (b' := false) 21 rfl (cF h13) rfl (zi (b' := false) 21 rfl (cF h13) rfl (zi (b' := false) 21 rfl (cF h13) rfl (zi (b' := false) 21 rfl (cF h13) rfl (zi (b' := false) 21 rfl (cF h13) rfl (zi (b' := false) 21 rfl (cF h13) rfl (zi (b' := false) 21 rfl (cF h13) rfl (za (zm (u := (.bool false)) ((rfl : _ = _).trans (cF h13)) rfl (za (zc (.bool false) rfl (zf (ze (hK5 _ _ ?_)))))))))))))))))
   refine wp_ret (zr Tryz.results88  (v := (.bool false)) rfl ?_)
   have q22 : (hdR h) = false := by unfold hdR; first | (rw [decide_eq_decide]; simp only [List.foldl_cons, List.foldl_nil] at *; omega) | (rw [decide_eq_false_iff_not]; simp only [List.foldl_cons, List.foldl_nil] at *; omega)
   have hH23 := (hH10.front 2 rfl).first 1 rfl
   exact ⟨by rw [q22], hH23⟩
 ·
  refine zi (b' := false) 16 rfl (cF h12) rfl (zi (b' := false) 16 rfl (cF h12) rfl (zi (b' := false) 16 rfl (cF h12) rfl (za (zm (u := (.bool false)) ((rfl : _ = _).trans (cF h12)) rfl (za (zb (.bool false) rfl (zi (b' := false) 21 rfl rfl rfl (zi (b' := false) 21 rfl rfl rfl (zi (b' := false) 21 rfl rfl rfl (zi (b' := false) 21 rfl rfl rfl (zi (b' := false) 21 rfl rfl rfl (zi (b' := false) 21 rfl rfl rfl (zi (b' := false) 21 rfl rfl rfl (zi (b' := false) 21 rfl rfl rfl (zi (b' := false) 21 rfl rfl rfl (zi (b' := false) 21 rfl rfl rfl ?_))))))))))))))))
  refine zi (b' := false) 21 rfl rfl rfl (za (zm (u := (.bool false)) rfl rfl (za (zc (.bool false) rfl (zf (ze (hK5 _ _ (wp_ret (zr Tryz.results88  (v := (.bool false)) rfl ?_)))))))))
  have q24 : (hdR h) = false := by unfold hdR; first | (rw [decide_eq_decide]; simp only [List.foldl_cons, List.foldl_nil] at *; omega) | (rw [decide_eq_false_iff_not]; simp only [List.foldl_cons, List.foldl_nil] at *; omega)
  have hH25 := (hH10.front 2 rfl).first 1 rfl
  exact ⟨by rw [q24], hH25⟩
theorem hlaid_c {E w : World} {R : List Hp} {h : Hd}  (hH : Has E w [R]) (hg : CellsAt R 0 0 nibV) :
  Calls Tryz.prog 13 #[(.agg (yH h))] w fun e w' => e = .returned (S (hdL h)) ∧ Has E w' [R] := by
 refine zs (args := [(.agg (yH h))]) Tryz.func13 rfl Tryz.ntmps13 (by simp) (yq fun K1 hK1 => (zd (za (o_box (cs := (yH h)) rfl rfl hH fun b2 w3 hH4 => (za (zc (S ([] : List UInt8)) rfl (zf (ze (hK1 _ _ (yq fun K5 hK5 => (yq fun K6 hK6 => (zd (za (zG (cs := (yL h)) Tryz.underlying23 rfl zY rfl hH4 (zh 0 rfl) (CellsAt.one rfl) (za (zk (vs := #[(.agg (yH h))]) ca88 rfl (zI rfl) (hright_c (h := h) hH4.all ) ?_))))))))))))))))
 rintro _ w9 ⟨rfl, hX7⟩
 refine ⟨_, rfl, ?_⟩
 have hH8 := hX7.of_all
 refine za (o_not rfl (zf (ze (hK6 _ _ (z7 rfl (fun h10 => ?_) (fun h10 => ?_))))))
 ·
  have h10_n : (hdR h) = false := by first | simpa using h10 | exact Bool.of_not_eq_true (fun g_ => by rw [g_] at h10; cases h10)
  have hE_ := hdL_no (h := h) (by simpa using h10)
  refine yq fun K11 hK11 => (zd (za (zc (S ([] : List UInt8)) rfl (zf (ze (hK11 _ _ (wp_ret (zx (zr Tryz.results13  (v := (S ([] : List UInt8))) rfl ?_)))))))))
  have q12 : (hdL h) = ([] : List UInt8) := by exact hE_
  have hH13 := (hH8.front 1 rfl).first 1 rfl
  exact ⟨by rw [q12], hH13⟩
 ·
  have h10_n : (hdR h) = true := by first | simpa using h10 | exact Bool.of_not_eq_false (fun g_ => by rw [g_] at h10; cases h10)
  have hR_ : hdR h = true := by simpa using h10
  have hu_ := hput hR_
  have hsl_ : (sealS [putS 8 [h.seq, h.ep, h.cut, h.st, h.mrk]].flatten).length = 44 := by rw [hu_, show [hdN h].flatten = hdN h by simp]; exact hseal_len h
  have hnl_ := hdN_len h
  refine wp_skip (ze (hK5 _ _ (yq fun K14 hK14 => (zd (za (zg (k := 0) (fun _ => by kernel_rfl) rfl (za (zj (v := (yi h.seq)) Tryz.underlying3 rfl rfl hH8 (zh 0 rfl) (CellsAt.one rfl) (za (zg (k := 1) (fun _ => by kernel_rfl) rfl (za (zj (v := (yi h.ep)) Tryz.underlying3 rfl rfl hH8 (zh 0 rfl) (CellsAt.one rfl) (za (zg (k := 2) (fun _ => by kernel_rfl) rfl (za (zj (v := (yi h.cut)) Tryz.underlying3 rfl rfl hH8 (zh 0 rfl) (CellsAt.one rfl) (za (zg (k := 3) (fun _ => by kernel_rfl) rfl (za (zj (v := (yi h.st)) Tryz.underlying3 rfl rfl hH8 (zh 0 rfl) (CellsAt.one rfl) (za (zg (k := 4) (fun _ => by kernel_rfl) rfl (za (zj (v := (yi h.mrk)) Tryz.underlying3 rfl rfl hH8 (zh 0 rfl) (CellsAt.one rfl) (za (zw (ps := #[(0, (yi h.seq)), (1, (yi h.ep)), (2, (yi h.cut)), (3, (yi h.st)), (4, (yi h.mrk))]) (cells := (yH h)) Tryz.underlying47 ti3 (by decide) (parts5 rfl rfl rfl rfl rfl) (by kernel_rfl) hH8 fun b15 w16 hH17 => ?_))))))))))))))))))))))))))
  refine za (zk (vs := #[(yi 8), (.slice (some ⟨b15, 0, none⟩) 5 5)]) ca90 rfl (zF rfl rfl) (put_c hH17.all 8 (l := [h.seq, h.ep, h.cut, h.st, h.mrk]) ((zW (f := iV) (l := [h.seq, h.ep, h.cut, h.st, h.mrk]) rfl rfl (by simp)).mono (zh 0 rfl)) (by simp)) ?_)
  rintro _ w20 ⟨rfl, hX18⟩
  refine ⟨_, rfl, ?_⟩
  have hH19 := hX18.of_all
  refine za (zw (ps := #[(0, (S (putS 8 [h.seq, h.ep, h.cut, h.st, h.mrk])))]) (cells := #[(S (putS 8 [h.seq, h.ep, h.cut, h.st, h.mrk]))]) Tryz.underlying46 ti9 (by decide) (yb rfl) (by kernel_rfl) hH19 fun b21 w22 hH23 => (za (zk (vs := #[(.slice (some ⟨b21, 0, none⟩) 1 1)]) ca89 rfl (zI rfl) (seal_c hH23.all (hg.mono (zh 3 rfl)) ((zW (f := sV) (l := [(putS 8 [h.seq, h.ep, h.cut, h.st, h.mrk])]) rfl rfl (by simp)).mono (zh 0 rfl)) (by simp) (by rw [hu_]; simp only [List.flatten_cons, List.flatten_nil, List.append_nil]; omega)) ?_)))
  rintro _ w26 ⟨rfl, hX24⟩
  refine ⟨_, rfl, ?_⟩
  have hH25 := hX24.of_all
  refine za (zc (S (sealS [(putS 8 [h.seq, h.ep, h.cut, h.st, h.mrk])].flatten)) rfl (zf (ze (hK14 _ _ (yq fun K27 hK27 => (zd (za (zb (S (sealS [(putS 8 [h.seq, h.ep, h.cut, h.st, h.mrk])].flatten)) rfl (za (zb (S (sealS [(putS 8 [h.seq, h.ep, h.cut, h.st, h.mrk])].flatten)) rfl (za (z8 Tryz.underlying9 rfl (za (o_sub (a := 64) (b := ((sealS [(putS 8 [h.seq, h.ep, h.cut, h.st, h.mrk])].flatten).length : Int)) rfl rfl (w64 (by omega) (by omega)) ?_))))))))))))))
  obtain ⟨n28, hn28⟩ : ∃ n_ : Nat, 64 - ((sealS [(putS 8 [h.seq, h.ep, h.cut, h.st, h.mrk])].flatten).length : Int) = (n_ : Int) := ⟨(64 - ((sealS [(putS 8 [h.seq, h.ep, h.cut, h.st, h.mrk])].flatten).length : Int)).toNat, by omega⟩
  refine za (zk (vs := #[(S [0]), (yi (64 - ((sealS [(putS 8 [h.seq, h.ep, h.cut, h.st, h.mrk])].flatten).length : Int)))]) ca91 rfl (zF rfl rfl) ((by rw [hn28]; exact repeat_c hH25.all n28 (by omega))) ?_)
  rintro _ w31 ⟨rfl, hX29⟩
  refine ⟨_, rfl, ?_⟩
  have hH30 := hX29.of_all
  refine za (o_sadd rfl rfl (by rw [List.length_replicate]; omega) (za (zc (S ((sealS [(putS 8 [h.seq, h.ep, h.cut, h.st, h.mrk])].flatten) ++ (List.replicate n28 0))) rfl (zf (ze (hK27 _ _ (wp_ret (zr Tryz.results13  (v := (S ((sealS [(putS 8 [h.seq, h.ep, h.cut, h.st, h.mrk])].flatten) ++ (List.replicate n28 0)))) rfl ?_))))))))
  have hE_ : hdL h = (sealS [(putS 8 [h.seq, h.ep, h.cut, h.st, h.mrk])].flatten) ++ (List.replicate n28 0) := by rw [hdL_yes hR_, hu_, show [hdN h].flatten = hdN h by simp, show n28 = 20 by omega]
  have q32 : (hdL h) = (sealS [(putS 8 [h.seq, h.ep, h.cut, h.st, h.mrk])].flatten) ++ (List.replicate n28 0) := by exact hE_
  have hH33 := (hH30.front 3 rfl).first 1 rfl
  exact ⟨by rw [q32], hH33⟩
end Go.Q
namespace Go.Q
section rounds
variable {P : Program} {Q : Exit → Act → World → Prop} {w : World} {N : Nat} {r : Nat → Value} {c : Code}
theorem u_loop (n : Nat) (h : Code.rounds P c Q n (fr N r) w) : (Code.loop c).wp P Q (fr N r) w := wp_loop_rounds n h
theorem u_round {m : Nat} (h : c.wp P (Exit.then (Code.rounds P c Q m) Q) (fr N r) w) : Code.rounds P c Q (m + 1) (fr N r) w := h
end rounds
end Go.Q
namespace Go.Q
open Go.Proofs
set_option linter.unusedVariables false
set_option maxRecDepth 100000
attribute [local irreducible] wpList OK Code.wp
theorem hread_c {E w : World} {R : List Hp} {s : Bs}  (hH : Has E w [R]) (hg : CellsAt R 0 0 nibV) (hs : s.length ≤ 1000000) :
  Calls Tryz.prog 190 #[(S s)] w fun e w' => e = .returned (.tuple #[(.agg (yH ((hdP s).1))), (.bool ((hdP s).2))]) ∧ Has E w' [R] := by
 have t1_ := take_rest_le s 8
 have t2_ := take_rest_le (takeS s 8).2.1 8
 have t3_ := take_rest_le (takeS (takeS s 8).2.1 8).2.1 8
 have t4_ := take_rest_le (takeS (takeS (takeS s 8).2.1 8).2.1 8).2.1 8
 refine zs (args := [(S s)]) Tryz.func190 rfl Tryz.ntmps190 (by simp) (yq fun K1 hK1 => (zd (za (zU (cs := y0A) zY rfl hH fun b2 w3 hH4 => (za (zc (.bool false) rfl (zf (ze (hK1 _ _ (yq fun K5 hK5 => (yq fun K6 hK6 => (zd (za (zb (S s) rfl (za (z8 Tryz.underlying9 rfl (za (o_neq (a := (s.length : Int)) (b := 64) rfl rfl (zf (ze (hK6 _ _ ?_)))))))))))))))))))))
 refine zt rfl (fun h7 => ?_) (fun h7 => ?_)
 ·
  refine yq fun K8 hK8 => (zd (za (zJ (v := (.agg y0A)) (fun _ => by kernel_rfl) (zB (zv (vs := y0L) (c' := y0A) zY rfl rfl rfl rfl y5 (by simp) (by kernel_rfl) (hH4.front 0 rfl) fun w9 hH10 => (za (zc (.bool false) rfl (zf (ze (hK8 _ _ (wp_ret (zx (zR Tryz.results190 rfl (zu (cs := y0L) Tryz.underlying23 rfl zY hH10 (zh 0 rfl) (CellsAt.one rfl)) (x := (.bool false)) rfl ?_)))))))))))))
  have hE_ := hdP_no (s := s) (.inl (by omega))
  have q11 : (hdP s).1 = (Hd.mk 0 0 0 0 0) := by exact (congrArg Prod.fst hE_).trans rfl
  have q12 : (hdP s).2 = false := by exact (congrArg Prod.snd hE_).trans rfl
  have hH13 := (hH10.front 1 rfl).first 1 rfl
  exact ⟨by rw [q11]; rw [q12], hH13⟩
 ·
  refine wp_skip (ze (hK5 _ _ (yq fun K14 hK14 => (zd (za (zU (cs := y0A) zY rfl hH4 fun b15 w16 hH17 => (zf (ze (hK14 _ _ (yq fun K18 hK18 => (zd (za (zb (S s) rfl (za (zc (S s) rfl (zf (ze (hK18 _ _ (yq fun K19 hK19 => (yq fun K20 hK20 => ?_))))))))))))))))))))
  refine zd (za (zg (k := 0) (fun _ => by kernel_rfl) rfl (za (zg (k := 1) (fun _ => by kernel_rfl) rfl (za (zg (k := 2) (fun _ => by kernel_rfl) rfl (za (zg (k := 3) (fun _ => by kernel_rfl) rfl (za (zg (k := 4) (fun _ => by kernel_rfl) rfl (za (zw (ps := #[(0, (yp b15)), (1, (.pointer (some ⟨b15, 1, none⟩))), (2, (.pointer (some ⟨b15, 2, none⟩))), (3, (.pointer (some ⟨b15, 3, none⟩))), (4, (.pointer (some ⟨b15, 4, none⟩)))]) (cells := #[(yp b15), (.pointer (some ⟨b15, 1, none⟩)), (.pointer (some ⟨b15, 2, none⟩)), (.pointer (some ⟨b15, 3, none⟩)), (.pointer (some ⟨b15, 4, none⟩))]) Tryz.underlying368 ti367 (by decide) (parts5 rfl rfl rfl rfl rfl) (by kernel_rfl) hH17 fun b21 w22 hH23 => (za (zQ Tryz.underlying368 rfl (zW (f := (fpV b15)) (l := [0, 1, 2, 3, 4]) (g := (0, 0)) (T := 367) rfl rfl (by simp)) (za (zb (yi 0) rfl (zf (ze (hK20 _ _ (wp_block (u_loop 6 (u_round (yq fun K24 hK24 => (zd ?_))))))))))))))))))))))))
  refine za (zL (a := 0) (b := 5) rfl rfl (zf (ze (hK24 _ _ (yq fun K25 hK25 => (zP rfl rfl (wp_skip (ze (hK25 _ _ (yq fun K26 hK26 => (wp_block (yq fun K27 hK27 => (zd (za (z6 Tryz.underlying368 ti367 rfl (zW (f := (fpV b15)) (l := [0, 1, 2, 3, 4]) (g := (0, 0)) (T := 367) rfl rfl (by simp)) rfl (by omega) (show [0, 1, 2, 3, 4][((0 : Int)).toNat]? = some 0 from rfl) fun b28 o29 hc30 => (za (zj (v := (yp b15)) Tryz.underlying367 rfl rfl hH23 (zh 0 rfl) hc30 (za (zc (yp b15) rfl (zf ?_))))))))))))))))))))
  refine ze (hK27 _ _ (zd (za (zb (yp b15) rfl (za (zb (S s) rfl (za (zk (vs := #[(S s), (yi 8)]) ca276 rfl (zF rfl rfl) (take_c hH23.all 8 s (by omega)) ?_))))))))
  rintro _ w33 ⟨rfl, hX31⟩
  refine ⟨_, rfl, ?_⟩
  have hH32 := hX31.of_all
  refine za (zb (.tuple #[(yi ((takeS s 8).1)), (S ((takeS s 8).2.1)), (.bool ((takeS s 8).2.2))]) rfl (za (zp (v := (yi ((takeS s 8).1))) rfl rfl (za (zp (v := (S ((takeS s 8).2.1))) rfl rfl (za (zp (v := (.bool ((takeS s 8).2.2))) rfl rfl (za (zl rfl (zB (zH (c' := #[(yi ((takeS s 8).1)), (yi 0), (yi 0), (yi 0), (yi 0)]) ti3 rfl rfl rfl (by simp) rfl (hH32.front 1 rfl) fun w34 hH35 => (za (zc (S ((takeS s 8).2.1)) rfl (zf (zC (ze (hK26 _ _ (zd (za (zD (a := 0) (b := 1) (c := 1) rfl rfl (by decide) (za (zb (yi 1) rfl (zf (ze (u_round ?_)))))))))))))))))))))))))
  refine yq fun K36 hK36 => (zd (za (zL (a := 1) (b := 5) rfl rfl (zf (ze (hK36 _ _ (yq fun K37 hK37 => (zP rfl rfl (wp_skip (ze (hK37 _ _ (yq fun K38 hK38 => (wp_block (yq fun K39 hK39 => (zd (za (z6 Tryz.underlying368 ti367 rfl (zW (f := (fpV b15)) (l := [0, 1, 2, 3, 4]) (g := (0, 0)) (T := 367) rfl rfl (by simp)) rfl (by omega) (show [0, 1, 2, 3, 4][((1 : Int)).toNat]? = some 1 from rfl) fun b40 o41 hc42 => (za (zj (v := (.pointer (some ⟨b15, 1, none⟩))) Tryz.underlying367 rfl rfl hH35 (zh 1 rfl) hc42 ?_)))))))))))))))))))
  refine za (zc (.pointer (some ⟨b15, 1, none⟩)) rfl (zf (ze (hK39 _ _ (zd (za (zb (.pointer (some ⟨b15, 1, none⟩)) rfl (za (zb (S ((takeS s 8).2.1)) rfl (za (zk (vs := #[(S ((takeS s 8).2.1)), (yi 8)]) ca276 rfl (zF rfl rfl) (take_c hH35.all 8 ((takeS s 8).2.1) (by omega)) ?_)))))))))))
  rintro _ w45 ⟨rfl, hX43⟩
  refine ⟨_, rfl, ?_⟩
  have hH44 := hX43.of_all
  refine za (zb (.tuple #[(yi ((takeS ((takeS s 8).2.1) 8).1)), (S ((takeS ((takeS s 8).2.1) 8).2.1)), (.bool ((takeS ((takeS s 8).2.1) 8).2.2))]) rfl (za (zp (v := (yi ((takeS ((takeS s 8).2.1) 8).1))) rfl rfl (za (zp (v := (S ((takeS ((takeS s 8).2.1) 8).2.1))) rfl rfl (za (zp (v := (.bool ((takeS ((takeS s 8).2.1) 8).2.2))) rfl rfl (za (zl rfl (zB (zH (c' := #[(yi ((takeS s 8).1)), (yi ((takeS ((takeS s 8).2.1) 8).1)), (yi 0), (yi 0), (yi 0)]) ti3 rfl rfl rfl (by simp) rfl (hH44.front 0 rfl) fun w46 hH47 => (za (zc (S ((takeS ((takeS s 8).2.1) 8).2.1)) rfl (zf (zC (ze (hK38 _ _ (zd (za (zD (a := 1) (b := 1) (c := 2) rfl rfl (by decide) (za (zb (yi 2) rfl (zf (ze (u_round ?_)))))))))))))))))))))))))
  refine yq fun K48 hK48 => (zd (za (zL (a := 2) (b := 5) rfl rfl (zf (ze (hK48 _ _ (yq fun K49 hK49 => (zP rfl rfl (wp_skip (ze (hK49 _ _ (yq fun K50 hK50 => (wp_block (yq fun K51 hK51 => (zd (za (z6 Tryz.underlying368 ti367 rfl (zW (f := (fpV b15)) (l := [0, 1, 2, 3, 4]) (g := (0, 0)) (T := 367) rfl rfl (by simp)) rfl (by omega) (show [0, 1, 2, 3, 4][((2 : Int)).toNat]? = some 2 from rfl) fun b52 o53 hc54 => (za (zj (v := (.pointer (some ⟨b15, 2, none⟩))) Tryz.underlying367 rfl rfl hH47 (zh 1 rfl) hc54 ?_)))))))))))))))))))
  refine za (zc (.pointer (some ⟨b15, 2, none⟩)) rfl (zf (ze (hK51 _ _ (zd (za (zb (.pointer (some ⟨b15, 2, none⟩)) rfl (za (zb (S ((takeS ((takeS s 8).2.1) 8).2.1)) rfl (za (zk (vs := #[(S ((takeS ((takeS s 8).2.1) 8).2.1)), (yi 8)]) ca276 rfl (zF rfl rfl) (take_c hH47.all 8 ((takeS ((takeS s 8).2.1) 8).2.1) (by omega)) ?_)))))))))))
  rintro _ w57 ⟨rfl, hX55⟩
  refine ⟨_, rfl, ?_⟩
  have hH56 := hX55.of_all
  refine za (zb (.tuple #[(yi ((takeS ((takeS ((takeS s 8).2.1) 8).2.1) 8).1)), (S ((takeS ((takeS ((takeS s 8).2.1) 8).2.1) 8).2.1)), (.bool ((takeS ((takeS ((takeS s 8).2.1) 8).2.1) 8).2.2))]) rfl (za (zp (v := (yi ((takeS ((takeS ((takeS s 8).2.1) 8).2.1) 8).1))) rfl rfl (za (zp (v := (S ((takeS ((takeS ((takeS s 8).2.1) 8).2.1) 8).2.1))) rfl rfl (za (zp (v := (.bool ((takeS ((takeS ((takeS s 8).2.1) 8).2.1) 8).2.2))) rfl rfl (za (zl rfl (zB (zH (c' := #[(yi ((takeS s 8).1)), (yi ((takeS ((takeS s 8).2.1) 8).1)), (yi ((takeS ((takeS ((takeS s 8).2.1) 8).2.1) 8).1)), (yi 0), (yi 0)]) ti3 rfl rfl rfl (by simp) rfl (hH56.front 0 rfl) fun w58 hH59 => (za (zc (S ((takeS ((takeS ((takeS s 8).2.1) 8).2.1) 8).2.1)) rfl (zf (zC (ze (hK50 _ _ (zd (za (zD (a := 2) (b := 1) (c := 3) rfl rfl (by decide) (za (zb (yi 3) rfl (zf (ze (u_round ?_)))))))))))))))))))))))))
  refine yq fun K60 hK60 => (zd (za (zL (a := 3) (b := 5) rfl rfl (zf (ze (hK60 _ _ (yq fun K61 hK61 => (zP rfl rfl (wp_skip (ze (hK61 _ _ (yq fun K62 hK62 => (wp_block (yq fun K63 hK63 => (zd (za (z6 Tryz.underlying368 ti367 rfl (zW (f := (fpV b15)) (l := [0, 1, 2, 3, 4]) (g := (0, 0)) (T := 367) rfl rfl (by simp)) rfl (by omega) (show [0, 1, 2, 3, 4][((3 : Int)).toNat]? = some 3 from rfl) fun b64 o65 hc66 => (za (zj (v := (.pointer (some ⟨b15, 3, none⟩))) Tryz.underlying367 rfl rfl hH59 (zh 1 rfl) hc66 ?_)))))))))))))))))))
  refine za (zc (.pointer (some ⟨b15, 3, none⟩)) rfl (zf (ze (hK63 _ _ (zd (za (zb (.pointer (some ⟨b15, 3, none⟩)) rfl (za (zb (S ((takeS ((takeS ((takeS s 8).2.1) 8).2.1) 8).2.1)) rfl (za (zk (vs := #[(S ((takeS ((takeS ((takeS s 8).2.1) 8).2.1) 8).2.1)), (yi 8)]) ca276 rfl (zF rfl rfl) (take_c hH59.all 8 ((takeS ((takeS ((takeS s 8).2.1) 8).2.1) 8).2.1) (by omega)) ?_)))))))))))
  rintro _ w69 ⟨rfl, hX67⟩
  refine ⟨_, rfl, ?_⟩
  have hH68 := hX67.of_all
  refine za (zb (.tuple #[(yi ((takeS ((takeS ((takeS ((takeS s 8).2.1) 8).2.1) 8).2.1) 8).1)), (S ((takeS ((takeS ((takeS ((takeS s 8).2.1) 8).2.1) 8).2.1) 8).2.1)), (.bool ((takeS ((takeS ((takeS ((takeS s 8).2.1) 8).2.1) 8).2.1) 8).2.2))]) rfl (za (zp (v := (yi ((takeS ((takeS ((takeS ((takeS s 8).2.1) 8).2.1) 8).2.1) 8).1))) rfl rfl (za (zp (v := (S ((takeS ((takeS ((takeS ((takeS s 8).2.1) 8).2.1) 8).2.1) 8).2.1))) rfl rfl (za (zp (v := (.bool ((takeS ((takeS ((takeS ((takeS s 8).2.1) 8).2.1) 8).2.1) 8).2.2))) rfl rfl (za (zl rfl (zB (zH (c' := #[(yi ((takeS s 8).1)), (yi ((takeS ((takeS s 8).2.1) 8).1)), (yi ((takeS ((takeS ((takeS s 8).2.1) 8).2.1) 8).1)), (yi ((takeS ((takeS ((takeS ((takeS s 8).2.1) 8).2.1) 8).2.1) 8).1)), (yi 0)]) ti3 rfl rfl rfl (by simp) rfl (hH68.front 0 rfl) fun w70 hH71 => (za (zc (S ((takeS ((takeS ((takeS ((takeS s 8).2.1) 8).2.1) 8).2.1) 8).2.1)) rfl (zf (zC (ze (hK62 _ _ (zd (za (zD (a := 3) (b := 1) (c := 4) rfl rfl (by decide) (za (zb (yi 4) rfl (zf (ze (u_round ?_)))))))))))))))))))))))))
  refine yq fun K72 hK72 => (zd (za (zL (a := 4) (b := 5) rfl rfl (zf (ze (hK72 _ _ (yq fun K73 hK73 => (zP rfl rfl (wp_skip (ze (hK73 _ _ (yq fun K74 hK74 => (wp_block (yq fun K75 hK75 => (zd (za (z6 Tryz.underlying368 ti367 rfl (zW (f := (fpV b15)) (l := [0, 1, 2, 3, 4]) (g := (0, 0)) (T := 367) rfl rfl (by simp)) rfl (by omega) (show [0, 1, 2, 3, 4][((4 : Int)).toNat]? = some 4 from rfl) fun b76 o77 hc78 => (za (zj (v := (.pointer (some ⟨b15, 4, none⟩))) Tryz.underlying367 rfl rfl hH71 (zh 1 rfl) hc78 ?_)))))))))))))))))))
  refine za (zc (.pointer (some ⟨b15, 4, none⟩)) rfl (zf (ze (hK75 _ _ (zd (za (zb (.pointer (some ⟨b15, 4, none⟩)) rfl (za (zb (S ((takeS ((takeS ((takeS ((takeS s 8).2.1) 8).2.1) 8).2.1) 8).2.1)) rfl (za (zk (vs := #[(S ((takeS ((takeS ((takeS ((takeS s 8).2.1) 8).2.1) 8).2.1) 8).2.1)), (yi 8)]) ca276 rfl (zF rfl rfl) (take_c hH71.all 8 ((takeS ((takeS ((takeS ((takeS s 8).2.1) 8).2.1) 8).2.1) 8).2.1) (by omega)) ?_)))))))))))
  rintro _ w81 ⟨rfl, hX79⟩
  refine ⟨_, rfl, ?_⟩
  have hH80 := hX79.of_all
  refine za (zb (.tuple #[(yi ((takeS ((takeS ((takeS ((takeS ((takeS s 8).2.1) 8).2.1) 8).2.1) 8).2.1) 8).1)), (S ((takeS ((takeS ((takeS ((takeS ((takeS s 8).2.1) 8).2.1) 8).2.1) 8).2.1) 8).2.1)), (.bool ((takeS ((takeS ((takeS ((takeS ((takeS s 8).2.1) 8).2.1) 8).2.1) 8).2.1) 8).2.2))]) rfl (za (zp (v := (yi ((takeS ((takeS ((takeS ((takeS ((takeS s 8).2.1) 8).2.1) 8).2.1) 8).2.1) 8).1))) rfl rfl (za (zp (v := (S ((takeS ((takeS ((takeS ((takeS ((takeS s 8).2.1) 8).2.1) 8).2.1) 8).2.1) 8).2.1))) rfl rfl (za (zp (v := (.bool ((takeS ((takeS ((takeS ((takeS ((takeS s 8).2.1) 8).2.1) 8).2.1) 8).2.1) 8).2.2))) rfl rfl (za (zl rfl (zB (zH (c' := #[(yi ((takeS s 8).1)), (yi ((takeS ((takeS s 8).2.1) 8).1)), (yi ((takeS ((takeS ((takeS s 8).2.1) 8).2.1) 8).1)), (yi ((takeS ((takeS ((takeS ((takeS s 8).2.1) 8).2.1) 8).2.1) 8).1)), (yi ((takeS ((takeS ((takeS ((takeS ((takeS s 8).2.1) 8).2.1) 8).2.1) 8).2.1) 8).1))]) ti3 rfl rfl rfl (by simp) rfl (hH80.front 0 rfl) fun w82 hH83 => (za (zc (S ((takeS ((takeS ((takeS ((takeS ((takeS s 8).2.1) 8).2.1) 8).2.1) 8).2.1) 8).2.1)) rfl (zf (zC (ze (hK74 _ _ (zd (za (zD (a := 4) (b := 1) (c := 5) rfl rfl (by decide) (za (zb (yi 5) rfl (zf (ze (u_round ?_)))))))))))))))))))))))))
  refine yq fun K84 hK84 => (zd (za (zL (a := 5) (b := 5) rfl rfl (zf (ze (hK84 _ _ (yq fun K85 hK85 => (zK rfl rfl (wp_exit (zy (zy (x_in ((ze (hK19 _ _ (yq fun K86 hK86 => (yq fun K87 hK87 => (zd (za (zG (cs := [(yi ((takeS s 8).1)), (yi ((takeS ((takeS s 8).2.1) 8).1)), (yi ((takeS ((takeS ((takeS s 8).2.1) 8).2.1) 8).1)), (yi ((takeS ((takeS ((takeS ((takeS s 8).2.1) 8).2.1) 8).2.1) 8).1)), (yi ((takeS ((takeS ((takeS ((takeS ((takeS s 8).2.1) 8).2.1) 8).2.1) 8).2.1) 8).1))]) Tryz.underlying23 rfl zY rfl hH83 (zh 0 rfl) (CellsAt.one rfl) (za (zk (vs := #[(.agg #[(yi ((takeS s 8).1)), (yi ((takeS ((takeS s 8).2.1) 8).1)), (yi ((takeS ((takeS ((takeS s 8).2.1) 8).2.1) 8).1)), (yi ((takeS ((takeS ((takeS ((takeS s 8).2.1) 8).2.1) 8).2.1) 8).1)), (yi ((takeS ((takeS ((takeS ((takeS ((takeS s 8).2.1) 8).2.1) 8).2.1) 8).2.1) 8).1))])]) ca13 rfl (zI rfl) (hlaid_c (h := (Hd.mk ((takeS s 8).1) ((takeS ((takeS s 8).2.1) 8).1) ((takeS ((takeS ((takeS s 8).2.1) 8).2.1) 8).1) ((takeS ((takeS ((takeS ((takeS s 8).2.1) 8).2.1) 8).2.1) 8).1) ((takeS ((takeS ((takeS ((takeS ((takeS s 8).2.1) 8).2.1) 8).2.1) 8).2.1) 8).1))) hH83.all (hg.mono (zh 3 rfl))) ?_))))))))))))))))))))))
  rintro _ w90 ⟨rfl, hX88⟩
  refine ⟨_, rfl, ?_⟩
  have hH89 := hX88.of_all
  refine za (zb (S s) rfl (za (o_sneq (a := (hdL (Hd.mk ((takeS s 8).1) ((takeS ((takeS s 8).2.1) 8).1) ((takeS ((takeS ((takeS s 8).2.1) 8).2.1) 8).1) ((takeS ((takeS ((takeS ((takeS s 8).2.1) 8).2.1) 8).2.1) 8).1) ((takeS ((takeS ((takeS ((takeS ((takeS s 8).2.1) 8).2.1) 8).2.1) 8).2.1) 8).1)))) (b := s) rfl rfl (zf (ze (hK87 _ _ (zt rfl (fun h91 => ?_) (fun h91 => ?_))))))))
  ·
   refine yq fun K92 hK92 => (zd (za (zJ (v := (.agg y0A)) (fun _ => by kernel_rfl) (zB (zv (vs := y0L) (c' := y0A) zY rfl rfl rfl rfl y5 (by simp) (by kernel_rfl) (hH89.front 2 rfl) fun w93 hH94 => (za (zc (.bool false) rfl (zf (ze (hK92 _ _ (wp_ret (zx (zR Tryz.results190 rfl (zu (cs := y0L) Tryz.underlying23 rfl zY hH94 (zh 0 rfl) (CellsAt.one rfl)) (x := (.bool false)) rfl ?_)))))))))))))
   have hE_ := hdP_no (s := s) (.inr h91)
   have q95 : (hdP s).1 = (Hd.mk 0 0 0 0 0) := by exact (congrArg Prod.fst hE_).trans rfl
   have q96 : (hdP s).2 = false := by exact (congrArg Prod.snd hE_).trans rfl
   have hH97 := (hH94.front 3 rfl).first 1 rfl
   exact ⟨by rw [q95]; rw [q96], hH97⟩
  ·
   refine wp_skip (ze (hK86 _ _ (yq fun K98 hK98 => (zd (za (zG (cs := [(yi ((takeS s 8).1)), (yi ((takeS ((takeS s 8).2.1) 8).1)), (yi ((takeS ((takeS ((takeS s 8).2.1) 8).2.1) 8).1)), (yi ((takeS ((takeS ((takeS ((takeS s 8).2.1) 8).2.1) 8).2.1) 8).1)), (yi ((takeS ((takeS ((takeS ((takeS ((takeS s 8).2.1) 8).2.1) 8).2.1) 8).2.1) 8).1))]) Tryz.underlying23 rfl zY rfl hH89 (zh 0 rfl) (CellsAt.one rfl) (zB (zv (vs := [(yi ((takeS s 8).1)), (yi ((takeS ((takeS s 8).2.1) 8).1)), (yi ((takeS ((takeS ((takeS s 8).2.1) 8).2.1) 8).1)), (yi ((takeS ((takeS ((takeS ((takeS s 8).2.1) 8).2.1) 8).2.1) 8).1)), (yi ((takeS ((takeS ((takeS ((takeS ((takeS s 8).2.1) 8).2.1) 8).2.1) 8).2.1) 8).1))]) (c' := #[(yi ((takeS s 8).1)), (yi ((takeS ((takeS s 8).2.1) 8).1)), (yi ((takeS ((takeS ((takeS s 8).2.1) 8).2.1) 8).1)), (yi ((takeS ((takeS ((takeS ((takeS s 8).2.1) 8).2.1) 8).2.1) 8).1)), (yi ((takeS ((takeS ((takeS ((takeS ((takeS s 8).2.1) 8).2.1) 8).2.1) 8).2.1) 8).1))]) zY rfl rfl rfl rfl y5 (by simp) (by kernel_rfl) (hH89.front 2 rfl) fun w99 hH100 => (za (zc (.bool true) rfl (zf (ze (hK98 _ _ (wp_ret (zR Tryz.results190 rfl (zu (cs := [(yi ((takeS s 8).1)), (yi ((takeS ((takeS s 8).2.1) 8).1)), (yi ((takeS ((takeS ((takeS s 8).2.1) 8).2.1) 8).1)), (yi ((takeS ((takeS ((takeS ((takeS s 8).2.1) 8).2.1) 8).2.1) 8).1)), (yi ((takeS ((takeS ((takeS ((takeS ((takeS s 8).2.1) 8).2.1) 8).2.1) 8).2.1) 8).1))]) Tryz.underlying23 rfl zY hH100 (zh 0 rfl) (CellsAt.one rfl)) (x := (.bool true)) rfl ?_)))))))))))))))
   have hE_ := hdP_yes (s := s) (by omega) (Classical.not_not.1 h91)
   have q101 : (hdP s).1 = (Hd.mk ((takeS s 8).1) ((takeS ((takeS s 8).2.1) 8).1) ((takeS ((takeS ((takeS s 8).2.1) 8).2.1) 8).1) ((takeS ((takeS ((takeS ((takeS s 8).2.1) 8).2.1) 8).2.1) 8).1) ((takeS ((takeS ((takeS ((takeS ((takeS s 8).2.1) 8).2.1) 8).2.1) 8).2.1) 8).1)) := by exact (congrArg Prod.fst hE_).trans rfl
   have q102 : (hdP s).2 = true := by exact (congrArg Prod.snd hE_).trans rfl
   have hH103 := (hH100.front 3 rfl).first 1 rfl
   exact ⟨by rw [q101]; rw [q102], hH103⟩
end Go.Q
namespace Go.Q
open Go.Proofs
set_option linter.unusedVariables false
set_option maxRecDepth 100000
attribute [local irreducible] wpList OK Code.wp
theorem refPut_c {E w : World} {R : List Hp} (hH : Has E w [R]) (m : Nat) (hm : 1 ≤ m ∧ m ≤ 8) (n : Int) (hn : -9223372036854775808 ≤ n ∧ n ≤ 9223372036854775807) :
  Calls Tryz.prog 326 #[(yi (m : Int)), (yi n)] w fun e w' => ∃ t : List UInt8, e = .returned (.tuple #[S t, .bool (fitsS n m)]) ∧ t.length = m ∧ (fitsS n m = true → t = beFrom n m) ∧ Has E w' [R] := by
 refine zs (args := [(yi (m : Int)), (yi n)]) Tryz.func326 rfl Tryz.ntmps326 (by simp) (yq fun K1 hK1 => (zd (za (zc (S ([] : List UInt8)) rfl (za (zc (.bool false) rfl (zf (ze (hK1 _ _ (yq fun K2 hK2 => (zd (za (zc (.slice none 0 0) rfl (zf (ze (hK2 _ _ (yq fun K3 hK3 => (yq fun K4 hK4 => (zd ?_)))))))))))))))))))
 refine za (zc (yi 0) rfl (zf (ze (hK4 _ _ (wp_block ?_)))))
 let I6 : Nat → (Nat → Value) → World → Prop := fun n__ r__ w__ => ∃ (k : Nat) (vb : Value) (hs : List Hp) (lb : List UInt8), n__ = m - k ∧ Has E w__ [hs, R] ∧ (k ≤ m) ∧ (Own 5 1 vb lb.length (lb.map bV) hs) ∧ (lb = List.replicate k 0) ∧ (lb.length = k) ∧ r__ 0 = (yi (m : Int)) ∧ r__ 1 = (yi n) ∧ r__ 4 = (S ([] : List UInt8)) ∧ r__ 5 = (.bool false) ∧ r__ 6 = vb ∧ r__ 7 = (yi (k : Int))
 have hH7 := (Has.nil hH).first 2 rfl
 refine zX I6 _ ⟨0, (.slice none 0 0), [], [], rfl, hH7, Nat.zero_le _, Own.nil 5 1, rfl, rfl, rfl, rfl, rfl, rfl, rfl, rfl⟩ ?_
 rintro n_ r10 w8 ⟨k, vb, hs, lb, rfl, hH9, hk, hob, hlb, hll, e5_0, e5_1, e5_4, e5_5, e5_6, e5_7⟩
 refine yq fun K11 hK11 => (yq fun K12 hK12 => (zd (za (zb (yi (k : Int)) e5_7 (za (zb (yi (m : Int)) e5_0 (za (zL (a := (k : Int)) (b := (m : Int)) rfl rfl (zf (ze (hK12 _ _ (zt rfl (fun h13 => ?_) (fun h13 => ?_)))))))))))))
 ·
  refine wp_skip (ze (hK11 _ _ (yq fun K14 hK14 => (wp_block (zd (za (zb vb e5_6 (za (zw (ps := #[(0, (.int .u8 0))]) (cells := #[(.int .u8 0)]) Tryz.underlying30 ti5 (by decide) (yb rfl) (by kernel_rfl) hH9 fun b15 w16 hH17 => (za (o_append Tryz.underlying30 ti5 rfl (by decide) rfl hob rfl (zW (f := bV) (l := [(0 : UInt8)]) rfl rfl (by simp)) (hH17.front 1 rfl) (zh 0 rfl) (one_bV _) (by simp; omega) (by simp; omega) fun v18 s19 w21 ho20 hH22 => ?_)))))))))))
  have ho20 : Own 5 1 v18 (lb ++ [(0 : UInt8)]).length ((lb ++ [(0 : UInt8)]).map bV) s19 := ho20.app
  refine za (zc v18 rfl (zf (zC (ze (hK14 _ _ (zd (za (zb (yi (k : Int)) e5_7 (za (zD (a := (k : Int)) (b := 1) rfl rfl (w64 (by omega) (by omega)) (za (zc (yi ((k : Int) + 1)) rfl (zf ?_)))))))))))))
  have hH23 := ((hH22.front 2 rfl).front 1 rfl).first 2 rfl
  refine ze ⟨m - (k + 1), _, rfl, ?_, ?_⟩
  · omega
  · exact ⟨(k + 1), v18, s19, (lb ++ [(0 : UInt8)]), rfl, hH23, (by omega), (ho20), (by rw [hlb, List.replicate_succ']), (by simp; omega), e5_0, e5_1, e5_4, e5_5, rfl, rfl⟩
 ·
  refine wp_exit (zy (zy (x_in ((ze (hK3 _ _ (yq fun K24 hK24 => (yq fun K25 hK25 => (zd (za (zb (yi (m : Int)) e5_0 (za (o_sub (a := (m : Int)) (b := 1) rfl rfl (w64 (by omega) (by omega)) (za (zc (yi ((m : Int) - 1)) rfl (zf (ze (hK25 _ _ (wp_block ?_)))))))))))))))))))
  let I27 : Nat → (Nat → Value) → World → Prop := fun n__ r__ w__ => ∃ (j : Nat) (i : Int) (y : Int) (hs2 : List Hp) (lc : List UInt8), n__ = j + 1 ∧ Has E w__ [hs2, R] ∧ (j ≤ m) ∧ (i = (j : Int) - 1) ∧ (Own 5 1 vb lc.length (lc.map bV) hs2) ∧ (lc = List.replicate j 0 ++ beFrom n (m - j)) ∧ (0 ≤ n → y = n / ((256 ^ (m - j) : Nat) : Int)) ∧ (n < 0 → j = m ∧ y = n) ∧ (lc.length = m) ∧ (-9223372036854775808 ≤ y ∧ y ≤ 9223372036854775807) ∧ r__ 0 = (yi (m : Int)) ∧ r__ 1 = (yi y) ∧ r__ 4 = (S ([] : List UInt8)) ∧ r__ 5 = (.bool false) ∧ r__ 6 = vb ∧ r__ 7 = (yi (k : Int)) ∧ r__ 8 = (yi i) ∧ r__ 11 = (.bool (decide ((k : Int) < (m : Int))))
  refine zX I27 _ ⟨m, ((m : Int) - 1), n, hs, lb, rfl, hH9, Nat.le_refl _, rfl, hob, (by rw [hlb, show k = m from by omega, Nat.sub_self]; simp [beFrom]), (by intro _; rw [Nat.sub_self]; simp), fun _ => ⟨rfl, rfl⟩, (by omega), hn, e5_0, e5_1, e5_4, e5_5, e5_6, e5_7, rfl, rfl⟩ ?_
  rintro n_ r30 w28 ⟨j, i, y, hs2, lc, rfl, hH29, hj, hi, hoc, hlc, hy, hneg, hlen, hyr, e26_0, e26_1, e26_4, e26_5, e26_6, e26_7, e26_8, e26_11⟩
  refine yq fun K31 hK31 => (yq fun K32 hK32 => (zd (za (zb (yi i) e26_8 (za (o_geq (a := i) (b := 0) rfl rfl (za (zb (.bool (decide (0 ≤ i))) rfl ?_))))))))
  by_cases h33 : 0 ≤ i
  ·
   refine zo 21 rfl (cT h33) (zb (yi y) e26_1 (zo 21 rfl (cT h33) (o_gtr (a := y) (b := 0) rfl rfl (za (zq (u := (.bool (decide (0 < y)))) ((rfl : _ = _).trans (cT h33)) rfl (zf (ze (hK32 _ _ (zt rfl (fun h34 => ?_) (fun h34 => ?_))))))))))
   ·
    refine wp_skip (ze (hK31 _ _ (yq fun K35 hK35 => (wp_block (yq fun K36 hK36 => (zd (za (zb vb e26_6 (za (zb (yi i) e26_8 (za (zb (yi y) e26_1 (za (o_rem (a := y) (b := 256) (c := y % 256) rfl rfl (by omega) ((Int.tmod_eq_emod_of_nonneg (by first | exact Int.natCast_nonneg _ | omega))) (za (o_conv (c := ((by8 (y % 256)).toNat : Int)) Tryz.underlying3 Tryz.underlying5 rfl (wrap_by8 _) (za (o_ownAddr Tryz.underlying30 ti5 rfl hoc rfl (by omega) (by first | omega | (simp only [List.length_append, List.length_cons, List.length_nil, List.length_set]; omega)) fun b37 ho38 => (zB (o_ownStore (f := bV) (l := lc) (a := (by8 (y % 256))) ti5 rfl rfl rfl ho38 (by first | omega | (simp only [List.length_append, List.length_cons, List.length_nil, List.length_set]; omega)) hH29 fun s39 w40 ho41 hH42 => (zf (ze (hK36 _ _ ?_)))))))))))))))))))))))
    refine zd (za (zb (yi y) e26_1 (za (o_quo (a := y) (b := 256) (c := y / 256) rfl rfl (by omega) (by rw [(Int.tdiv_eq_ediv_of_nonneg (by first | exact Int.natCast_nonneg _ | omega))]; exact w64 (by omega) (by omega)) (za (zc (yi (y / 256)) rfl (zf (zC (ze (hK35 _ _ (zd (za (zb (yi i) e26_8 (za (o_sub (a := i) (b := 1) rfl rfl (w64 (by omega) (by omega)) (za (zc (yi (i - 1)) rfl (zf (ze ⟨(j - 1) + 1, _, rfl, ?_, ?_⟩)))))))))))))))))))
    · omega
    · exact ⟨(j - 1), (i - 1), (y / 256), s39, (lc.set ((i).toNat) (by8 (y % 256))), rfl, hH42, (by omega), (by omega), (ho41), (refput_set hlc (by omega) (by omega) hi hy (by omega)), (refput_div hy (by omega) (by omega)), (by omega), (by simp; omega), (by omega), e26_0, rfl, e26_4, e26_5, e26_6, e26_7, rfl, e26_11⟩
   ·
    refine wp_exit (zy (zy (x_in ((ze (hK24 _ _ (yq fun K43 hK43 => (zd (za (zb vb e26_6 (za (o_bstr Tryz.underlying30 Tryz.underlying5 Tryz.underlying9 rfl hoc.sl hH29 (zh 0 rfl) (za (zb (yi y) e26_1 (za (yc (a := y) (b := 0) rfl rfl (za (zc (S lc) rfl (za (zc (.bool (decide (y = 0))) rfl (zf (ze (hK43 _ _ (wp_ret (ya Tryz.results326  (v := (S lc)) rfl (x := (.bool (decide (y = 0)))) rfl ?_)))))))))))))))))))))))))
    have hH44 := (hH29.front 1 rfl).first 1 rfl
    exact ⟨lc, by rw [show decide (y = 0) = fitsS n m from refput_ok hm hn hj hy hneg (by omega)], hlen, refput_be hm hn hj hlc hy hneg (by omega), hH44⟩
  ·
   refine zi (b' := false) 21 rfl (cF h33) rfl (zi (b' := false) 21 rfl (cF h33) rfl (za (zm (u := (.bool false)) ((rfl : _ = _).trans (cF h33)) rfl (zf (ze (hK32 _ _ (zK rfl rfl (wp_exit (zy (zy (x_in ((ze (hK24 _ _ (yq fun K45 hK45 => (zd (za (zb vb e26_6 (za (o_bstr Tryz.underlying30 Tryz.underlying5 Tryz.underlying9 rfl hoc.sl hH29 (zh 0 rfl) (za (zb (yi y) e26_1 (za (yc (a := y) (b := 0) rfl rfl ?_))))))))))))))))))))))))
   refine za (zc (S lc) rfl (za (zc (.bool (decide (y = 0))) rfl (zf (ze (hK45 _ _ (wp_ret (ya Tryz.results326  (v := (S lc)) rfl (x := (.bool (decide (y = 0)))) rfl ?_))))))))
   have hH46 := (hH29.front 1 rfl).first 1 rfl
   exact ⟨lc, by rw [show decide (y = 0) = fitsS n m from refput_ok hm hn hj hy hneg (by omega)], hlen, refput_be hm hn hj hlc hy hneg (by omega), hH46⟩
theorem refTake_c {E w : World} {R : List Hp} (hH : Has E w [R]) (m : Nat) (s : List UInt8) (hsl : s.length ≤ 9223372036854775807) :
  Calls Tryz.prog 182 #[(S s), (yi (m : Int))] w fun e w' => e = .returned (.tuple #[.int .i64 (takeS s m).1, .bool (takeS s m).2.2]) ∧ Has E w' [R] := by
 refine zs (args := [(S s), (yi (m : Int))]) Tryz.func182 rfl Tryz.ntmps182 (by simp) (yq fun K1 hK1 => (zd (za (zc (yi 0) rfl (za (zc (.bool false) rfl (zf (ze (hK1 _ _ (yq fun K2 hK2 => (yq fun K3 hK3 => (zd (za (zb (yi (m : Int)) rfl (za (zL (a := (m : Int)) (b := 1) rfl rfl (za (zb (.bool (decide ((m : Int) < 1))) rfl ?_))))))))))))))))))
 by_cases h4 : (m : Int) < 1
 ·
  refine zi (b' := true) 10 rfl (cT h4) rfl (zi (b' := true) 10 rfl (cT h4) rfl (za (zq (u := (.bool true)) ((rfl : _ = _).trans (cT h4)) rfl (za (zb (.bool true) rfl (zi (b' := true) 14 rfl rfl rfl (zi (b' := true) 14 rfl rfl rfl (zi (b' := true) 14 rfl rfl rfl (zi (b' := true) 14 rfl rfl rfl (za (zq (u := (.bool true)) rfl rfl (za (zb (.bool true) rfl (zi (b' := true) 20 rfl rfl rfl (zi (b' := true) 20 rfl rfl rfl (zi (b' := true) 20 rfl rfl rfl (zE 23 rfl rfl (zE 23 rfl rfl ?_))))))))))))))))))
  refine zE 23 rfl rfl (zi (b' := true) 20 rfl rfl rfl (za (zq (u := (.bool true)) rfl rfl (zf (ze (hK3 _ _ (zP rfl rfl (yq fun K5 hK5 => (zd (za (zc (yi 0) rfl (za (zc (.bool false) rfl (zf (ze (hK5 _ _ (wp_ret (zx (ya Tryz.results182  (v := (yi 0)) rfl (x := (.bool false)) rfl ?_)))))))))))))))))))
  exact ⟨by rw [takeS_no (by first | exact .inl (by omega) | exact .inr (.inl (by omega)) | exact .inr (.inr ⟨by omega, 0, by simpa using rfl, by omega⟩))], hH⟩
 ·
  refine zo 10 rfl (cF h4) (zb (yi (m : Int)) rfl (zo 10 rfl (cF h4) (o_gtr (a := (m : Int)) (b := 8) rfl rfl (za (zm (u := (.bool (decide (8 < (m : Int))))) ((rfl : _ = _).trans (cF h4)) rfl (za (zb (.bool (decide (8 < (m : Int)))) rfl ?_)))))))
  by_cases h6 : 8 < (m : Int)
  ·
   refine zi (b' := true) 14 rfl (cT h6) rfl (zi (b' := true) 14 rfl (cT h6) rfl (zi (b' := true) 14 rfl (cT h6) rfl (zi (b' := true) 14 rfl (cT h6) rfl (za (zq (u := (.bool true)) ((rfl : _ = _).trans (cT h6)) rfl (za (zb (.bool true) rfl (zi (b' := true) 20 rfl rfl rfl (zi (b' := true) 20 rfl rfl rfl (zi (b' := true) 20 rfl rfl rfl (zE 23 rfl rfl (zE 23 rfl rfl (zE 23 rfl rfl (zi (b' := true) 20 rfl rfl rfl (za (zq (u := (.bool true)) rfl rfl (zf ?_)))))))))))))))))
   refine ze (hK3 _ _ (zP rfl rfl (yq fun K7 hK7 => (zd (za (zc (yi 0) rfl (za (zc (.bool false) rfl (zf (ze (hK7 _ _ (wp_ret (zx (ya Tryz.results182  (v := (yi 0)) rfl (x := (.bool false)) rfl ?_))))))))))))))
   exact ⟨by rw [takeS_no (by first | exact .inl (by omega) | exact .inr (.inl (by omega)) | exact .inr (.inr ⟨by omega, 0, by simpa using rfl, by omega⟩))], hH⟩
  ·
   refine zo 14 rfl (cF h6) (zb (S s) rfl (zo 14 rfl (cF h6) (z8 Tryz.underlying9 rfl (zo 14 rfl (cF h6) (zb (yi (m : Int)) rfl (zo 14 rfl (cF h6) (zL (a := (s.length : Int)) (b := (m : Int)) rfl rfl (za (zm (u := (.bool (decide ((s.length : Int) < (m : Int))))) ((rfl : _ = _).trans (cF h6)) rfl (za (zb (.bool (decide ((s.length : Int) < (m : Int)))) rfl ?_)))))))))))
   by_cases h8 : (s.length : Int) < (m : Int)
   ·
    refine zi (b' := true) 20 rfl (cT h8) rfl (zi (b' := true) 20 rfl (cT h8) rfl (zi (b' := true) 20 rfl (cT h8) rfl (zE 23 rfl rfl (zE 23 rfl rfl (zE 23 rfl rfl (zi (b' := true) 20 rfl (cT h8) rfl (za (zq (u := (.bool true)) ((rfl : _ = _).trans (cT h8)) rfl (zf (ze (hK3 _ _ (zP rfl rfl (yq fun K9 hK9 => (zd (za (zc (yi 0) rfl (za (zc (.bool false) rfl ?_))))))))))))))))))
    refine zf (ze (hK9 _ _ (wp_ret (zx (ya Tryz.results182  (v := (yi 0)) rfl (x := (.bool false)) rfl ?_)))))
    exact ⟨by rw [takeS_no (by first | exact .inl (by omega) | exact .inr (.inl (by omega)) | exact .inr (.inr ⟨by omega, 0, by simpa using rfl, by omega⟩))], hH⟩
   ·
    refine zo 20 rfl (cF h8) (zb (yi (m : Int)) rfl (zo 20 rfl (cF h8) (yc (a := (m : Int)) (b := 8) rfl rfl (zo 20 rfl (cF h8) (zb (.bool (decide ((m : Int) = 8))) rfl ?_)))))
    by_cases h10 : (m : Int) = 8
    ·
     refine zo 23 rfl (cT h10) (zb (S s) rfl ?_)
     obtain ⟨c11, hx12⟩ : ∃ x_, s[((0 : Int)).toNat]? = some x_ := zN (by omega)
     have c11_lt := c11.toNat_lt
     refine zo 23 rfl (cT h10) (o_sidx Tryz.underlying9 rfl rfl (by omega) hx12 (zo 23 rfl (cT h10) (o_geq (a := (c11.toNat : Int)) (b := 128) rfl rfl (zo 20 rfl (cF h8) (zq (u := (.bool (decide (128 ≤ (c11.toNat : Int))))) ((rfl : _ = _).trans (cT h10)) rfl (za (zm (u := (.bool (decide (128 ≤ (c11.toNat : Int))))) ((rfl : _ = _).trans (cF h8)) rfl (zf (ze (hK3 _ _ (zt rfl (fun h13 => ?_) (fun h13 => ?_))))))))))))
     ·
      refine yq fun K14 hK14 => (zd (za (zc (yi 0) rfl (za (zc (.bool false) rfl (zf (ze (hK14 _ _ (wp_ret (zx (ya Tryz.results182  (v := (yi 0)) rfl (x := (.bool false)) rfl ?_)))))))))))
      exact ⟨by rw [takeS_no (by first | exact .inl (by omega) | exact .inr (.inl (by omega)) | exact .inr (.inr ⟨by omega, c11, by simpa using hx12, by omega⟩))], hH⟩
     ·
      refine wp_skip (ze (hK2 _ _ (yq fun K15 hK15 => (zd (za (zc (yi 0) rfl (zf (ze (hK15 _ _ (yq fun K16 hK16 => (yq fun K17 hK17 => (zd (za (zc (yi 0) rfl (zf (ze (hK17 _ _ (wp_block ?_))))))))))))))))))
      let I19 : Nat → (Nat → Value) → World → Prop := fun n__ r__ w__ => ∃ (i : Nat) (y : Int), n__ = m - i ∧ Has E w__ [R] ∧ (i ≤ m) ∧ (y = beVal (s.take i)) ∧ r__ 0 = (S s) ∧ r__ 1 = (yi (m : Int)) ∧ r__ 4 = (yi 0) ∧ r__ 5 = (.bool false) ∧ r__ 6 = (yi y) ∧ r__ 7 = (yi (i : Int)) ∧ r__ 28 = (.bool (decide (128 ≤ (c11.toNat : Int))))
      refine zX I19 _ ⟨0, 0, rfl, hH, Nat.zero_le _, rfl, rfl, rfl, rfl, rfl, rfl, rfl, rfl⟩ ?_
      rintro n_ r22 w20 ⟨i, y, rfl, hH21, hi, hy, e18_0, e18_1, e18_4, e18_5, e18_6, e18_7, e18_28⟩
      have hb0 := beVal_nonneg (s.take i)
      have hb1 : i < m → beVal (s.take i) < 36028797018963968 := fun h => beVal_lt h (by omega) (by omega) (.inr (first_byte (by simpa using hx12) (by omega)))
      refine yq fun K23 hK23 => (yq fun K24 hK24 => (zd (za (zb (yi (i : Int)) e18_7 (za (zb (yi (m : Int)) e18_1 (za (zL (a := (i : Int)) (b := (m : Int)) rfl rfl (zf (ze (hK24 _ _ (zt rfl (fun h25 => ?_) (fun h25 => ?_)))))))))))))
      ·
       refine wp_skip (ze (hK23 _ _ (yq fun K26 hK26 => (wp_block (zd (za (zb (yi y) e18_6 (za (o_mul (a := 256) (b := y) rfl rfl (w64 (by omega) (by omega)) (za (zb (S s) e18_0 (za (zb (yi (i : Int)) e18_7 ?_)))))))))))))
       obtain ⟨c27, hx28⟩ : ∃ x_, s[((i : Int)).toNat]? = some x_ := zN (by omega)
       have c27_lt := c27.toNat_lt
       refine za (o_sidx Tryz.underlying9 rfl rfl (by omega) hx28 (za (o_conv Tryz.underlying5 Tryz.underlying3 rfl (w_u8 _) (za (zD (a := 256 * y) (b := (c27.toNat : Int)) rfl rfl (w64 (by omega) (by omega)) (za (zc (yi ((256 * y) + (c27.toNat : Int))) rfl (zf (zC (ze (hK26 _ _ (zd (za (zb (yi (i : Int)) e18_7 (za (zD (a := (i : Int)) (b := 1) rfl rfl (w64 (by omega) (by omega)) (za (zc (yi ((i : Int) + 1)) rfl (zf (ze ⟨m - (i + 1), _, rfl, ?_, ?_⟩))))))))))))))))))))
       · omega
       · exact ⟨(i + 1), ((256 * y) + (c27.toNat : Int)), rfl, hH21, (by omega), (by rw [zS (by simpa using hx28), beVal_snoc, ← hy]; omega), e18_0, e18_1, e18_4, e18_5, rfl, rfl, e18_28⟩
      ·
       refine wp_exit (zy (zy (x_in ((ze (hK16 _ _ (yq fun K29 hK29 => (zd (za (zb (yi y) e18_6 (za (zc (yi y) rfl (za (zc (.bool true) rfl (zf (ze (hK29 _ _ (wp_ret (ya Tryz.results182  (v := (yi y)) rfl (x := (.bool true)) rfl ?_)))))))))))))))))))
       have e : i = m := by omega
       rw [e] at hy
       exact ⟨by rw [takeS_yes (by omega) (by omega) (by omega) (.inr (first_byte (by simpa using hx12) (by omega))), hy], hH21⟩
    ·
     refine zi (b' := false) 23 rfl (cF h10) rfl (zi (b' := false) 23 rfl (cF h10) rfl (zi (b' := false) 23 rfl (cF h10) rfl (zo 20 rfl (cF h8) (zm (u := (.bool false)) ((rfl : _ = _).trans (cF h10)) rfl (za (zm (u := (.bool false)) ((rfl : _ = _).trans (cF h8)) rfl (zf (ze (hK3 _ _ (zK rfl rfl (wp_skip (ze (hK2 _ _ (yq fun K30 hK30 => (zd (za (zc (yi 0) rfl (zf (ze (hK30 _ _ ?_))))))))))))))))))))
     refine yq fun K31 hK31 => (yq fun K32 hK32 => (zd (za (zc (yi 0) rfl (zf (ze (hK32 _ _ (wp_block ?_))))))))
     let I34 : Nat → (Nat → Value) → World → Prop := fun n__ r__ w__ => ∃ (i : Nat) (y : Int), n__ = m - i ∧ Has E w__ [R] ∧ (i ≤ m) ∧ (y = beVal (s.take i)) ∧ r__ 0 = (S s) ∧ r__ 1 = (yi (m : Int)) ∧ r__ 4 = (yi 0) ∧ r__ 5 = (.bool false) ∧ r__ 6 = (yi y) ∧ r__ 7 = (yi (i : Int)) ∧ r__ 28 = (.bool false)
     refine zX I34 _ ⟨0, 0, rfl, hH, Nat.zero_le _, rfl, rfl, rfl, rfl, rfl, rfl, rfl, rfl⟩ ?_
     rintro n_ r37 w35 ⟨i, y, rfl, hH36, hi, hy, e33_0, e33_1, e33_4, e33_5, e33_6, e33_7, e33_28⟩
     have hb0 := beVal_nonneg (s.take i)
     have hb1 : i < m → beVal (s.take i) < 36028797018963968 := fun h => beVal_lt h (by omega) (by omega) (.inl (by omega))
     refine yq fun K38 hK38 => (yq fun K39 hK39 => (zd (za (zb (yi (i : Int)) e33_7 (za (zb (yi (m : Int)) e33_1 (za (zL (a := (i : Int)) (b := (m : Int)) rfl rfl (zf (ze (hK39 _ _ (zt rfl (fun h40 => ?_) (fun h40 => ?_)))))))))))))
     ·
      refine wp_skip (ze (hK38 _ _ (yq fun K41 hK41 => (wp_block (zd (za (zb (yi y) e33_6 (za (o_mul (a := 256) (b := y) rfl rfl (w64 (by omega) (by omega)) (za (zb (S s) e33_0 (za (zb (yi (i : Int)) e33_7 ?_)))))))))))))
      obtain ⟨c42, hx43⟩ : ∃ x_, s[((i : Int)).toNat]? = some x_ := zN (by omega)
      have c42_lt := c42.toNat_lt
      refine za (o_sidx Tryz.underlying9 rfl rfl (by omega) hx43 (za (o_conv Tryz.underlying5 Tryz.underlying3 rfl (w_u8 _) (za (zD (a := 256 * y) (b := (c42.toNat : Int)) rfl rfl (w64 (by omega) (by omega)) (za (zc (yi ((256 * y) + (c42.toNat : Int))) rfl (zf (zC (ze (hK41 _ _ (zd (za (zb (yi (i : Int)) e33_7 (za (zD (a := (i : Int)) (b := 1) rfl rfl (w64 (by omega) (by omega)) (za (zc (yi ((i : Int) + 1)) rfl (zf (ze ⟨m - (i + 1), _, rfl, ?_, ?_⟩))))))))))))))))))))
      · omega
      · exact ⟨(i + 1), ((256 * y) + (c42.toNat : Int)), rfl, hH36, (by omega), (by rw [zS (by simpa using hx43), beVal_snoc, ← hy]; omega), e33_0, e33_1, e33_4, e33_5, rfl, rfl, e33_28⟩
     ·
      refine wp_exit (zy (zy (x_in ((ze (hK31 _ _ (yq fun K44 hK44 => (zd (za (zb (yi y) e33_6 (za (zc (yi y) rfl (za (zc (.bool true) rfl (zf (ze (hK44 _ _ (wp_ret (ya Tryz.results182  (v := (yi y)) rfl (x := (.bool true)) rfl ?_)))))))))))))))))))
      have e : i = m := by omega
      rw [e] at hy
      exact ⟨by rw [takeS_yes (by omega) (by omega) (by omega) (.inl (by omega)), hy], hH36⟩
theorem rlaid_c {E w : World} {R : List Hp} (hH : Has E w [R]) (m : Nat) (hm : 1 ≤ m ∧ m ≤ 8) (n : Int) (hn : -9223372036854775808 ≤ n ∧ n ≤ 9223372036854775807) (hf : fitsS n m = true) :
  Calls Tryz.prog 266 #[(yi (m : Int)), (yi n)] w fun e w' => e = .returned (S (beFrom n m)) ∧ Has E w' [R] := by
 refine zs (args := [(yi (m : Int)), (yi n)]) Tryz.func266 rfl Tryz.ntmps266 (by simp) (yq fun K1 hK1 => (zd (za (zc (S ([] : List UInt8)) rfl (zf (ze (hK1 _ _ (yq fun K2 hK2 => (zd (za (zb (yi (m : Int)) rfl (za (zb (yi n) rfl (za (zk (vs := #[(yi (m : Int)), (yi n)]) ca326 rfl (zF rfl rfl) (refPut_c hH.all m hm n hn) ?_)))))))))))))))
 rintro _ w7 ⟨t3, rfl, _, ht4, hX5⟩
 refine ⟨_, rfl, ?_⟩
 have hH6 := hX5.of_all
 refine za (zb (.tuple #[(S t3), (.bool (fitsS n m))]) rfl (za (zp (v := (S t3)) rfl rfl (za (zp (v := (.bool (fitsS n m))) rfl rfl (za (zc (S t3) rfl (za (zc (.bool (fitsS n m)) rfl (zf (ze (hK2 _ _ (yq fun K8 hK8 => (zd (za (zb (S t3) rfl (za (zc (S t3) rfl (zf (ze (hK8 _ _ (wp_ret (zr Tryz.results266  (v := (S t3)) rfl ?_)))))))))))))))))))))))
 exact ⟨by rw [ht4 hf], hH6⟩
end Go.Q
namespace Go.Q
theorem S_beq' (a b : List UInt8) : ((⟨a.toArray⟩ : ByteArray).toList == (⟨b.toArray⟩ : ByteArray).toList) = decide (a = b) := by
 rw [bytes_toList, bytes_toList]
 by_cases h : a = b
 · subst h; simp
 · rw [decide_eq_false h]; simpa using h
theorem int_beq' (a b : Int) : (a == b) = decide (a = b) := by
 by_cases h : a = b
 · subst h; simp
 · rw [decide_eq_false h]; simpa using h
theorem part1 {P : Program} {t : TypeId} {d : TypeDesc} (ht : P.underlying t = some d) (hd : aggB d = false) {xs : Array Value} {o : Nat} {v : Value} (hv : xs[o]? = some v) (w : World) : (part t xs o).run P w = .ok v w := by
 unfold part
 rw [Sem.run_bind, run_isAgg ht, hd]
 simp [hv]
theorem eqC_nil {P : Program} {d : Nat} {xs ys : Array Value} {w : World} : (Op.eqFields d xs ys []).run P w = .ok true w := rfl
theorem eqC_cons {P : Program} {d : Nat} {xs ys : Array Value} {f : Field} {fs : List Field} {a b : Value} {r r' : Bool} {w : World} {ft fo : Nat} (h : (f.type, f.offset, f.name == "_") = (ft, fo, false)) (ha : (part ft xs fo).run P w = .ok a w) (hb : (part ft ys fo).run P w = .ok b w)
  (he : (Op.equalIn d ft a b).run P w = .ok r w) (hk : (Op.eqFields d xs ys fs).run P w = .ok r' w) : (Op.eqFields d xs ys (f :: fs)).run P w = .ok (r && r') w := by
 simp only [Prod.mk.injEq] at h
 obtain ⟨rfl, rfl, hn⟩ := h
 have hn' : f.name ≠ "_" := by simpa using hn
 rw [Op.eqFields, if_pos hn']
 simp only [Sem.run_bind, ha, hb, he, Result.andThen_ok]
 cases r
 · simp
 · simpa using hk
theorem eqC_fields {P : Program} {d : Nat} {xs ys : Array Value} {r : Bool} {w : World} {l : List Field} {m : List (Nat × Nat × Bool)} (hf : l.map (fun f => (f.type, f.offset, f.name == "_")) = m) (h : ∀ l : List Field, l.map (fun f => (f.type, f.offset, f.name == "_")) = m → (Op.eqFields d xs ys l).run P w = .ok r w) :
  (Op.eqFields d xs ys l).run P w = .ok r w := h l hf
theorem eq_int {P : Program} {t : TypeId} {k' : IntKind} (h : P.underlying t = some (.int k')) (d : Nat) (k : IntKind) (a b : Int) (w : World) : (Op.equalIn (d + 1) t (.int k a) (.int k b)).run P w = .ok (decide (a = b)) w := by rw [run_equalIn_int w d t _ _ _ _ h, int_beq']
theorem eq_str {P : Program} {t : TypeId} (h : P.underlying t = some .string) (d : Nat) (a b : List UInt8) (w : World) : (Op.equalIn (d + 1) t (S a) (S b)).run P w = .ok (decide (a = b)) w := by
 unfold S; rw [run_equalIn_string w d t _ _ h, S_beq']
end Go.Q
namespace Go.Q
open Go.Proofs
set_option linter.unusedVariables false
set_option maxRecDepth 100000
def eqv42 (a0 : Int) (a1 : Int) (a2 : List UInt8) (b0 : Int) (b1 : Int) (b2 : List UInt8) : Bool := (decide (a0 = b0) && (decide (a1 = b1) && (decide (a2 = b2) && true)))
theorem eqT42 (d : Nat) (w : World) (a0 : Int) (a1 : Int) (a2 : List UInt8) (b0 : Int) (b1 : Int) (b2 : List UInt8) : (Op.equalIn (d + 2) 42 (.agg #[(.int .i64 a0), (.int .i64 a1), (S a2)]) (.agg #[(.int .i64 b0), (.int .i64 b1), (S b2)])).run Tryz.prog w = .ok (eqv42 a0 a1 a2 b0 b1 b2) w := by
 rw [run_equalIn_struct w _ 42 _ _ (by kernel_rfl) (by kernel_rfl)]
 refine eqC_fields (m := [(3, 0, false), (3, 1, false), (9, 2, false)]) (by kernel_rfl) fun l hl => ?_
 obtain ⟨f0, l0, rfl, h0, hl⟩ := List.map_eq_cons_iff.1 hl
 refine eqC_cons (ft := 3) (fo := 0) (a := (.int .i64 a0)) (b := (.int .i64 b0)) h0 (part1 Tryz.underlying3 rfl (by kernel_rfl) w) (part1 Tryz.underlying3 rfl (by kernel_rfl) w) (eq_int Tryz.underlying3 (d + 0) _ _ _ w) ?_
 obtain ⟨f1, l1, rfl, h1, hl⟩ := List.map_eq_cons_iff.1 hl
 refine eqC_cons (ft := 3) (fo := 1) (a := (.int .i64 a1)) (b := (.int .i64 b1)) h1 (part1 Tryz.underlying3 rfl (by kernel_rfl) w) (part1 Tryz.underlying3 rfl (by kernel_rfl) w) (eq_int Tryz.underlying3 (d + 0) _ _ _ w) ?_
 obtain ⟨f2, l2, rfl, h2, hl⟩ := List.map_eq_cons_iff.1 hl
 refine eqC_cons (ft := 9) (fo := 2) (a := (S a2)) (b := (S b2)) h2 (part1 Tryz.underlying9 rfl (by kernel_rfl) w) (part1 Tryz.underlying9 rfl (by kernel_rfl) w) (eq_str Tryz.underlying9 (d + 0) _ _ w) ?_
 obtain rfl := List.map_eq_nil_iff.1 hl
 exact eqC_nil
theorem o_eql42 {ρ : Operand → Value} {w : World} {K : Value → World → Prop} {dst : Option Tmp} {T : TypeId} {pos : String} {after : Array Edge} {g : Option (Nat × Bool)} {u : TypeId} {x y : Operand} (a0 : Int) (a1 : Int) (a2 : List UInt8) (b0 : Int) (b1 : Int) (b2 : List UInt8) (hx : ρ x = .agg #[(.int .i64 a0), (.int .i64 a1), (S a2)]) (hy : ρ y = .agg #[(.int .i64 b0), (.int .i64 b1), (S b2)]) (h : K (.bool ((eqv42 a0 a1 a2 b0 b1 b2))) w) :
  OK Tryz.prog ⟨dst, .binOp .eql 42 x y u, T, pos, after, g⟩ ρ w K :=
 o_eqx hx hy (run_eqGuard_agg w _ _ _ _ _ _ (by kernel_rfl)) rfl (eqT42 (9998) w a0 a1 a2 b0 b1 b2) h
theorem o_neq42 {ρ : Operand → Value} {w : World} {K : Value → World → Prop} {dst : Option Tmp} {T : TypeId} {pos : String} {after : Array Edge} {g : Option (Nat × Bool)} {u : TypeId} {x y : Operand} (a0 : Int) (a1 : Int) (a2 : List UInt8) (b0 : Int) (b1 : Int) (b2 : List UInt8) (hx : ρ x = .agg #[(.int .i64 a0), (.int .i64 a1), (S a2)]) (hy : ρ y = .agg #[(.int .i64 b0), (.int .i64 b1), (S b2)]) (h : K (.bool (!(eqv42 a0 a1 a2 b0 b1 b2))) w) :
  OK Tryz.prog ⟨dst, .binOp .neq 42 x y u, T, pos, after, g⟩ ρ w K :=
 o_nex hx hy (run_eqGuard_agg w _ _ _ _ _ _ (by kernel_rfl)) rfl (eqT42 (9998) w a0 a1 a2 b0 b1 b2) h
theorem eqv42_iff (a0 : Int) (a1 : Int) (a2 : List UInt8) (b0 : Int) (b1 : Int) (b2 : List UInt8) : eqv42 a0 a1 a2 b0 b1 b2 = true ↔ a0 = b0 ∧ a1 = b1 ∧ a2 = b2 := by
 unfold eqv42; simp
end Go.Q
namespace Go.Q
open Go.Proofs
set_option linter.unusedVariables false
set_option maxRecDepth 100000
attribute [local irreducible] wpList OK Code.wp
theorem small7_c {E w : World} {R : List Hp} {n : Int}  (hH : Has E w [R]) :
  Calls Tryz.prog 368 #[(yi n)] w fun e w' => e = .returned (.bool (decide (0 ≤ n ∧ n ≤ 4611686018427387903))) ∧ Has E w' [R] := by
 refine zs (args := [(yi n)]) Tryz.func368 rfl Tryz.ntmps368 (by simp) (yq fun K1 hK1 => (zd (za (zc (.bool false) rfl (zf (ze (hK1 _ _ (yq fun K2 hK2 => (zd (za (zb (yi n) rfl (za (o_geq (a := n) (b := 0) rfl rfl (za (zb (.bool (decide (0 ≤ n))) rfl ?_)))))))))))))))
 by_cases h3 : 0 ≤ n
 ·
  refine zo 5 rfl (cT h3) (zb (yi n) rfl (zo 5 rfl (cT h3) (zL (a := n) (b := 4611686018427387904) rfl rfl (za (zq (u := (.bool (decide (n < 4611686018427387904)))) ((rfl : _ = _).trans (cT h3)) rfl (za (zc (.bool (decide (n < 4611686018427387904))) rfl (zf (ze (hK2 _ _ (wp_ret (zr Tryz.results368  (v := (.bool (decide (n < 4611686018427387904)))) rfl ?_))))))))))))
  have q4 : decide (0 ≤ n ∧ n ≤ 4611686018427387903) = decide (n < 4611686018427387904) := by first | (rw [decide_eq_decide]; omega) | (rw [decide_eq_false_iff_not]; omega)
  exact ⟨by rw [q4], hH⟩
 ·
  refine zi (b' := false) 5 rfl (cF h3) rfl (zi (b' := false) 5 rfl (cF h3) rfl (za (zm (u := (.bool false)) ((rfl : _ = _).trans (cF h3)) rfl (za (zc (.bool false) rfl (zf (ze (hK2 _ _ (wp_ret (zr Tryz.results368  (v := (.bool false)) rfl ?_))))))))))
  have q5 : decide (0 ≤ n ∧ n ≤ 4611686018427387903) = false := by first | (rw [decide_eq_decide]; omega) | (rw [decide_eq_false_iff_not]; omega)
  exact ⟨by rw [q5], hH⟩
theorem r7right_c {E w : World} {R : List Hp} {h : Hd}  (hH : Has E w [R]) :
  Calls Tryz.prog 332 #[(.agg (yH h))] w fun e w' => e = .returned (.bool (hdR h)) ∧ Has E w' [R] := by
 refine zs (args := [(.agg (yH h))]) Tryz.func332 rfl Tryz.ntmps332 (by simp) (yq fun K1 hK1 => (zd (za (o_box (cs := (yH h)) rfl rfl hH fun b2 w3 hH4 => (za (zc (.bool false) rfl (zf (ze (hK1 _ _ (yq fun K5 hK5 => (zd (za (zg (k := 0) (fun _ => by kernel_rfl) rfl (za (zj (v := (yi h.seq)) Tryz.underlying3 rfl rfl hH4 (zh 0 rfl) (CellsAt.one rfl) (za (zk (vs := #[(yi h.seq)]) ca368 rfl (zI rfl) (small7_c (n := h.seq) hH4.all ) ?_)))))))))))))))))
 rintro _ w8 ⟨rfl, hX6⟩
 refine ⟨_, rfl, ?_⟩
 have hH7 := hX6.of_all
 refine za (zb (.bool (decide (0 ≤ h.seq ∧ h.seq ≤ 4611686018427387903))) rfl ?_)
 by_cases h9 : 0 ≤ h.seq ∧ h.seq ≤ 4611686018427387903
 ·
  refine zo 6 rfl (cT h9) (zg (k := 1) (fun _ => by kernel_rfl) rfl (zo 6 rfl (cT h9) (zj (v := (yi h.ep)) Tryz.underlying3 rfl rfl hH7 (zh 0 rfl) (CellsAt.one rfl) (zo 6 rfl (cT h9) (o_geq (a := h.ep) (b := 0) rfl rfl (za (zq (u := (.bool (decide (0 ≤ h.ep)))) ((rfl : _ = _).trans (cT h9)) rfl (za (zb (.bool (decide (0 ≤ h.ep))) rfl ?_)))))))))
  by_cases h10 : 0 ≤ h.ep
  ·
   refine zo 11 rfl (cT h10) (zg (k := 1) (fun _ => by kernel_rfl) rfl (zo 11 rfl (cT h10) (zj (v := (yi h.ep)) Tryz.underlying3 rfl rfl hH7 (zh 0 rfl) (CellsAt.one rfl) (zo 11 rfl (cT h10) (zL (a := h.ep) (b := 2147483648) rfl rfl (za (zq (u := (.bool (decide (h.ep < 2147483648)))) ((rfl : _ = _).trans (cT h10)) rfl (za (zb (.bool (decide (h.ep < 2147483648))) rfl ?_)))))))))
   by_cases h11 : h.ep < 2147483648
   ·
    refine zo 16 rfl (cT h11) (zg (k := 2) (fun _ => by kernel_rfl) rfl (zo 16 rfl (cT h11) (zj (v := (yi h.cut)) Tryz.underlying3 rfl rfl hH7 (zh 0 rfl) (CellsAt.one rfl) (zo 16 rfl (cT h11) (zk (vs := #[(yi h.cut)]) ca368 rfl (zI rfl) (small7_c (n := h.cut) hH7.all ) ?_)))))
    rintro _ w14 ⟨rfl, hX12⟩
    refine ⟨_, rfl, ?_⟩
    have hH13 := hX12.of_all
    refine za (zq (u := (.bool (decide (0 ≤ h.cut ∧ h.cut ≤ 4611686018427387903)))) ((rfl : _ = _).trans (cT h11)) rfl (za (zb (.bool (decide (0 ≤ h.cut ∧ h.cut ≤ 4611686018427387903))) rfl ?_)))
    by_cases h15 : 0 ≤ h.cut ∧ h.cut ≤ 4611686018427387903
    ·
     refine zo 21 rfl (cT h15) (zg (k := 3) (fun _ => by kernel_rfl) rfl (zo 21 rfl (cT h15) (zj (v := (yi h.st)) Tryz.underlying3 rfl rfl hH13 (zh 0 rfl) (CellsAt.one rfl) (zo 21 rfl (cT h15) (zk (vs := #[(yi h.st)]) ca368 rfl (zI rfl) (small7_c (n := h.st) hH13.all ) ?_)))))
     rintro _ w18 ⟨rfl, hX16⟩
     refine ⟨_, rfl, ?_⟩
     have hH17 := hX16.of_all
     refine za (zq (u := (.bool (decide (0 ≤ h.st ∧ h.st ≤ 4611686018427387903)))) ((rfl : _ = _).trans (cT h15)) rfl (za (zb (.bool (decide (0 ≤ h.st ∧ h.st ≤ 4611686018427387903))) rfl ?_)))
     by_cases h19 : 0 ≤ h.st ∧ h.st ≤ 4611686018427387903
     ·
      refine zo 26 rfl (cT h19) (zg (k := 4) (fun _ => by kernel_rfl) rfl (zo 26 rfl (cT h19) (zj (v := (yi h.mrk)) Tryz.underlying3 rfl rfl hH17 (zh 0 rfl) (CellsAt.one rfl) (zo 26 rfl (cT h19) (zk (vs := #[(yi h.mrk)]) ca368 rfl (zI rfl) (small7_c (n := h.mrk) hH17.all ) ?_)))))
      rintro _ w22 ⟨rfl, hX20⟩
      refine ⟨_, rfl, ?_⟩
      have hH21 := hX20.of_all
      refine za (zq (u := (.bool (decide (0 ≤ h.mrk ∧ h.mrk ≤ 4611686018427387903)))) ((rfl : _ = _).trans (cT h19)) rfl (za (zc (.bool (decide (0 ≤ h.mrk ∧ h.mrk ≤ 4611686018427387903))) rfl (zf (ze (hK5 _ _ (wp_ret (zr Tryz.results332  (v := (.bool (decide (0 ≤ h.mrk ∧ h.mrk ≤ 4611686018427387903)))) rfl ?_))))))))
      have q23 : (hdR h) = decide (0 ≤ h.mrk ∧ h.mrk ≤ 4611686018427387903) := by unfold hdR; first | (rw [decide_eq_decide]; omega) | (rw [decide_eq_false_iff_not]; omega)
      have hH24 := (hH21.front 1 rfl).first 1 rfl
      exact ⟨by rw [q23], hH24⟩
     ·
      refine zi (b' := false) 26 rfl (cF h19) rfl (zi (b' := false) 26 rfl (cF h19) rfl (zi (b' := false) 26 rfl (cF h19) rfl (za (zm (u := (.bool false)) ((rfl : _ = _).trans (cF h19)) rfl (za (zc (.bool false) rfl (zf (ze (hK5 _ _ (wp_ret (zr Tryz.results332  (v := (.bool false)) rfl ?_)))))))))))
      have q25 : (hdR h) = false := by unfold hdR; first | (rw [decide_eq_decide]; omega) | (rw [decide_eq_false_iff_not]; omega)
      have hH26 := (hH17.front 1 rfl).first 1 rfl
      exact ⟨by rw [q25], hH26⟩
    ·
     refine zi (b' := false) 21 rfl (cF h15) rfl (zi (b' := false) 21 rfl (cF h15) rfl (zi (b' := false) 21 rfl (cF h15) rfl (za (zm (u := (.bool false)) ((rfl : _ = _).trans (cF h15)) rfl (za (zb (.bool false) rfl (zi (b' := false) 26 rfl rfl rfl (zi (b' := false) 26 rfl rfl rfl (zi (b' := false) 26 rfl rfl rfl (za (zm (u := (.bool false)) rfl rfl (za (zc (.bool false) rfl (zf (ze (hK5 _ _ (wp_ret (zr Tryz.results332  (v := (.bool false)) rfl ?_))))))))))))))))))
     have q27 : (hdR h) = false := by unfold hdR; first | (rw [decide_eq_decide]; omega) | (rw [decide_eq_false_iff_not]; omega)
     have hH28 := (hH13.front 1 rfl).first 1 rfl
     exact ⟨by rw [q27], hH28⟩
   ·
    refine zi (b' := false) 16 rfl (cF h11) rfl (zi (b' := false) 16 rfl (cF h11) rfl (zi (b' := false) 16 rfl (cF h11) rfl (za (zm (u := (.bool false)) ((rfl : _ = _).trans (cF h11)) rfl (za (zb (.bool false) rfl (zi (b' := false) 21 rfl rfl rfl (zi (b' := false) 21 rfl rfl rfl (zi (b' := false) 21 rfl rfl rfl (za (zm (u := (.bool false)) rfl rfl (za (zb (.bool false) rfl (zi (b' := false) 26 rfl rfl rfl (zi (b' := false) 26 rfl rfl rfl (zi (b' := false) 26 rfl rfl rfl (za (zm (u := (.bool false)) rfl rfl (za (zc (.bool false) rfl ?_))))))))))))))))))))
    refine zf (ze (hK5 _ _ (wp_ret (zr Tryz.results332  (v := (.bool false)) rfl ?_))))
    have q29 : (hdR h) = false := by unfold hdR; first | (rw [decide_eq_decide]; omega) | (rw [decide_eq_false_iff_not]; omega)
    have hH30 := (hH7.front 1 rfl).first 1 rfl
    exact ⟨by rw [q29], hH30⟩
  ·
   refine zi (b' := false) 11 rfl (cF h10) rfl (zi (b' := false) 11 rfl (cF h10) rfl (zi (b' := false) 11 rfl (cF h10) rfl (za (zm (u := (.bool false)) ((rfl : _ = _).trans (cF h10)) rfl (za (zb (.bool false) rfl (zi (b' := false) 16 rfl rfl rfl (zi (b' := false) 16 rfl rfl rfl (zi (b' := false) 16 rfl rfl rfl (za (zm (u := (.bool false)) rfl rfl (za (zb (.bool false) rfl (zi (b' := false) 21 rfl rfl rfl (zi (b' := false) 21 rfl rfl rfl (zi (b' := false) 21 rfl rfl rfl (za (zm (u := (.bool false)) rfl rfl (za (zb (.bool false) rfl ?_))))))))))))))))))))
   refine zi (b' := false) 26 rfl rfl rfl (zi (b' := false) 26 rfl rfl rfl (zi (b' := false) 26 rfl rfl rfl (za (zm (u := (.bool false)) rfl rfl (za (zc (.bool false) rfl (zf (ze (hK5 _ _ (wp_ret (zr Tryz.results332  (v := (.bool false)) rfl ?_)))))))))))
   have q31 : (hdR h) = false := by unfold hdR; first | (rw [decide_eq_decide]; omega) | (rw [decide_eq_false_iff_not]; omega)
   have hH32 := (hH7.front 1 rfl).first 1 rfl
   exact ⟨by rw [q31], hH32⟩
 ·
  refine zi (b' := false) 6 rfl (cF h9) rfl (zi (b' := false) 6 rfl (cF h9) rfl (zi (b' := false) 6 rfl (cF h9) rfl (za (zm (u := (.bool false)) ((rfl : _ = _).trans (cF h9)) rfl (za (zb (.bool false) rfl (zi (b' := false) 11 rfl rfl rfl (zi (b' := false) 11 rfl rfl rfl (zi (b' := false) 11 rfl rfl rfl (za (zm (u := (.bool false)) rfl rfl (za (zb (.bool false) rfl (zi (b' := false) 16 rfl rfl rfl (zi (b' := false) 16 rfl rfl rfl (zi (b' := false) 16 rfl rfl rfl (za (zm (u := (.bool false)) rfl rfl (za (zb (.bool false) rfl ?_))))))))))))))))))))
  refine zi (b' := false) 21 rfl rfl rfl (zi (b' := false) 21 rfl rfl rfl (zi (b' := false) 21 rfl rfl rfl (za (zm (u := (.bool false)) rfl rfl (za (zb (.bool false) rfl (zi (b' := false) 26 rfl rfl rfl (zi (b' := false) 26 rfl rfl rfl (zi (b' := false) 26 rfl rfl rfl (za (zm (u := (.bool false)) rfl rfl (za (zc (.bool false) rfl (zf (ze (hK5 _ _ (wp_ret (zr Tryz.results332  (v := (.bool false)) rfl ?_))))))))))))))))))
  have q33 : (hdR h) = false := by unfold hdR; first | (rw [decide_eq_decide]; omega) | (rw [decide_eq_false_iff_not]; omega)
  have hH34 := (hH7.front 1 rfl).first 1 rfl
  exact ⟨by rw [q33], hH34⟩
theorem r7laid_c {E w : World} {R : List Hp} {h : Hd}  (hH : Has E w [R]) (hr : hdR h = true) :
  Calls Tryz.prog 333 #[(.agg (yH h))] w fun e w' => e = .returned (S (hdL h)) ∧ Has E w' [R] := by
 obtain ⟨b1_, b2_, b3_, b4_, b5_⟩ := of_decide_eq_true hr
 refine zs (args := [(.agg (yH h))]) Tryz.func333 rfl Tryz.ntmps333 (by simp) (yq fun K1 hK1 => (zd (za (o_box (cs := (yH h)) rfl rfl hH fun b2 w3 hH4 => (za (zc (S ([] : List UInt8)) rfl (zf (ze (hK1 _ _ (yq fun K5 hK5 => (Rest.region mixed (by kernel_rfl) ?_)))))))))))
 have hH6 : Has E { w3 with drawn := w3.drawn + 1 } [[Hp.one b2 (.cells (yH h) 275 (0, 0))], R] := Has0.drew hH4 _
 refine Rest.phaseA (fun w_ => Has E w_ [[Hp.one b2 (.cells (yH h) 275 (0, 0))]]) 0 18 18 rfl (by decide) (by kernel_rfl) (zn 0 rfl (by kernel_rfl) (fun w_ h_ => zg (k := 0) (fun _ => by kernel_rfl) rfl ⟨rfl, rfl⟩) (zn 1 rfl (by kernel_rfl) (fun w_ h_ => zj (v := (yi h.seq)) Tryz.underlying3 rfl rfl h_ (zh 0 rfl) (CellsAt.one rfl) ⟨rfl, rfl⟩) (zn 3 rfl (by kernel_rfl) (fun w_ h_ => zg (k := 1) (fun _ => by kernel_rfl) rfl ⟨rfl, rfl⟩) (zn 4 rfl (by kernel_rfl) (fun w_ h_ => zj (v := (yi h.ep)) Tryz.underlying3 rfl rfl h_ (zh 0 rfl) (CellsAt.one rfl) ⟨rfl, rfl⟩) (zn 7 rfl (by kernel_rfl) (fun w_ h_ => zg (k := 2) (fun _ => by kernel_rfl) rfl ⟨rfl, rfl⟩) (zn 8 rfl (by kernel_rfl) (fun w_ h_ => zj (v := (yi h.cut)) Tryz.underlying3 rfl rfl h_ (zh 0 rfl) (CellsAt.one rfl) ⟨rfl, rfl⟩) (zn 11 rfl (by kernel_rfl) (fun w_ h_ => zg (k := 3) (fun _ => by kernel_rfl) rfl ⟨rfl, rfl⟩) (zn 12 rfl (by kernel_rfl) (fun w_ h_ => zj (v := (yi h.st)) Tryz.underlying3 rfl rfl h_ (zh 0 rfl) (CellsAt.one rfl) ⟨rfl, rfl⟩) (zn 15 rfl (by kernel_rfl) (fun w_ h_ => zg (k := 4) (fun _ => by kernel_rfl) rfl ⟨rfl, rfl⟩) (zn 16 rfl (by kernel_rfl) (fun w_ h_ => zj (v := (yi h.mrk)) Tryz.underlying3 rfl rfl h_ (zh 0 rfl) (CellsAt.one rfl) ⟨rfl, rfl⟩) ?_))))))))))
 have hH7 := hH6.first 1 rfl
 refine a_w 2 rfl (by kernel_rfl) hH7 (zk (vs := #[(yi 8), (yi h.seq)]) ca266 rfl (zF rfl rfl) (rlaid_c hH6.all 8 (by decide) h.seq (by omega) (yf (b := 9223372036854775808) (by omega) (by omega) (by decide) (by decide) (by omega))) ?_)
 rintro _ w10 ⟨rfl, hX8⟩
 refine ⟨_, rfl, ?_⟩
 have hH9 := hX8.of_all
 have hH11 := hH9.first 1 rfl
 refine a_w 5 rfl (by kernel_rfl) hH11 (zk (vs := #[(yi 8), (yi h.ep)]) ca266 rfl (zF rfl rfl) (rlaid_c hH9.all 8 (by decide) h.ep (by omega) (yf (b := 9223372036854775808) (by omega) (by omega) (by decide) (by decide) (by omega))) ?_)
 rintro _ w14 ⟨rfl, hX12⟩
 refine ⟨_, rfl, ?_⟩
 have hH13 := hX12.of_all
 refine zn 6 rfl (by kernel_rfl) (fun w_ h_ => o_sadd rfl rfl (by simp only [List.length_append, List.length_cons, List.length_nil, zA, ye]; omega) ⟨rfl, rfl⟩) ?_
 have hH15 := hH13.first 1 rfl
 refine a_w 9 rfl (by kernel_rfl) hH15 (zk (vs := #[(yi 8), (yi h.cut)]) ca266 rfl (zF rfl rfl) (rlaid_c hH13.all 8 (by decide) h.cut (by omega) (yf (b := 9223372036854775808) (by omega) (by omega) (by decide) (by decide) (by omega))) ?_)
 rintro _ w18 ⟨rfl, hX16⟩
 refine ⟨_, rfl, ?_⟩
 have hH17 := hX16.of_all
 refine zn 10 rfl (by kernel_rfl) (fun w_ h_ => o_sadd rfl rfl (by simp only [List.length_append, List.length_cons, List.length_nil, zA, ye]; omega) ⟨rfl, rfl⟩) ?_
 have hH19 := hH17.first 1 rfl
 refine a_w 13 rfl (by kernel_rfl) hH19 (zk (vs := #[(yi 8), (yi h.st)]) ca266 rfl (zF rfl rfl) (rlaid_c hH17.all 8 (by decide) h.st (by omega) (yf (b := 9223372036854775808) (by omega) (by omega) (by decide) (by decide) (by omega))) ?_)
 rintro _ w22 ⟨rfl, hX20⟩
 refine ⟨_, rfl, ?_⟩
 have hH21 := hX20.of_all
 refine zn 14 rfl (by kernel_rfl) (fun w_ h_ => o_sadd rfl rfl (by simp only [List.length_append, List.length_cons, List.length_nil, zA, ye]; omega) ⟨rfl, rfl⟩) ?_
 have hH23 := hH21.first 1 rfl
 refine a_w 17 rfl (by kernel_rfl) hH23 (zk (vs := #[(yi 8), (yi h.mrk)]) ca266 rfl (zF rfl rfl) (rlaid_c hH21.all 8 (by decide) h.mrk (by omega) (yf (b := 9223372036854775808) (by omega) (by omega) (by decide) (by decide) (by omega))) ?_)
 rintro _ w26 ⟨rfl, hX24⟩
 refine ⟨_, rfl, ?_⟩
 have hH25 := hX24.of_all
 have hH27 := hH25.first 1 rfl
 refine zM (by kernel_rfl) hH27 (zO 18 rfl (by kernel_rfl) (o_sadd rfl rfl (by simp only [List.length_append, List.length_cons, List.length_nil, zA, ye]; omega) (zO 19 rfl (by kernel_rfl) (zc (S (((((beFrom h.seq 8) ++ (beFrom h.ep 8)) ++ (beFrom h.cut 8)) ++ (beFrom h.st 8)) ++ (beFrom h.mrk 8))) rfl (Rest.done (by kernel_rfl) (ze (hK5 _ _ (yq fun K28 hK28 => (zd (za (zb (S (((((beFrom h.seq 8) ++ (beFrom h.ep 8)) ++ (beFrom h.cut 8)) ++ (beFrom h.st 8)) ++ (beFrom h.mrk 8))) rfl (za (zb (S (((((beFrom h.seq 8) ++ (beFrom h.ep 8)) ++ (beFrom h.cut 8)) ++ (beFrom h.st 8)) ++ (beFrom h.mrk 8))) rfl (za (zk (vs := #[(S (((((beFrom h.seq 8) ++ (beFrom h.ep 8)) ++ (beFrom h.cut 8)) ++ (beFrom h.st 8)) ++ (beFrom h.mrk 8)))]) ca267 rfl (zI rfl) (reflaid_c hH25.all (((((beFrom h.seq 8) ++ (beFrom h.ep 8)) ++ (beFrom h.cut 8)) ++ (beFrom h.st 8)) ++ (beFrom h.mrk 8)) (by simp only [List.length_append, zA]; omega)) ?_)))))))))))))))
 rintro _ w31 ⟨rfl, hX29⟩
 refine ⟨_, rfl, ?_⟩
 have hH30 := hX29.of_all
 refine za (o_sadd rfl rfl (by simp only [List.length_append, List.length_cons, List.length_nil, zA, ye]; omega) (za (zc (S ((((((beFrom h.seq 8) ++ (beFrom h.ep 8)) ++ (beFrom h.cut 8)) ++ (beFrom h.st 8)) ++ (beFrom h.mrk 8)) ++ (laidS (crcS (((((beFrom h.seq 8) ++ (beFrom h.ep 8)) ++ (beFrom h.cut 8)) ++ (beFrom h.st 8)) ++ (beFrom h.mrk 8)))))) rfl (zf (ze (hK28 _ _ (yq fun K32 hK32 => (wp_block ?_))))))))
 let I34 : Nat → (Nat → Value) → World → Prop := fun n__ r__ w__ => ∃ (u : Bs) (j : Nat), n__ = 64 - u.length ∧ Has E w__ [[Hp.one b2 (.cells (yH h) 275 (0, 0))], R] ∧ (u = sealS (hdN h) ++ List.replicate j 0) ∧ (u.length ≤ 64) ∧ r__ 0 = (.agg (yH h)) ∧ r__ 1 = (yp b2) ∧ r__ 2 = (S ([] : List UInt8)) ∧ r__ 3 = (S u)
 refine zX I34 _ ⟨((((((beFrom h.seq 8) ++ (beFrom h.ep 8)) ++ (beFrom h.cut 8)) ++ (beFrom h.st 8)) ++ (beFrom h.mrk 8)) ++ (laidS (crcS (((((beFrom h.seq 8) ++ (beFrom h.ep 8)) ++ (beFrom h.cut 8)) ++ (beFrom h.st 8)) ++ (beFrom h.mrk 8))))), 0, rfl, hH30, (by rw [sealS, hdN]; simp [List.append_assoc]), (by simp only [List.length_append, zA, ye]; omega), rfl, rfl, rfl, rfl⟩ ?_
 rintro n_ r37 w35 ⟨u, j, rfl, hH36, hu, hul, e33_0, e33_1, e33_2, e33_3⟩
 refine yq fun K38 hK38 => (yq fun K39 hK39 => (zd (za (zb (S u) e33_3 (za (z8 Tryz.underlying9 rfl (za (zL (a := (u.length : Int)) (b := 64) rfl rfl (zf (ze (hK39 _ _ (zt rfl (fun h40 => ?_) (fun h40 => ?_)))))))))))))
 ·
  refine wp_skip (ze (hK38 _ _ (wp_block (zd (za (zb (S u) e33_3 (za (o_sadd rfl rfl (by simp only [List.length_append, List.length_cons, List.length_nil, zA, ye]; omega) (za (zc (S (u ++ [0])) rfl (zf (zC (ze ⟨64 - (u ++ [0]).length, _, rfl, ?_, ?_⟩)))))))))))))
  · simp only [List.length_append, List.length_cons, List.length_nil]; omega
  · exact ⟨(u ++ [0]), (j + 1), rfl, hH36, (by rw [hu, List.append_assoc, show [(0 : UInt8)] = List.replicate 1 0 from rfl, List.replicate_append_replicate]), (by simp only [List.length_append, List.length_cons, List.length_nil]; omega), e33_0, e33_1, e33_2, rfl⟩
 ·
  refine wp_exit (zy (zy (x_in ((ze (hK32 _ _ (yq fun K41 hK41 => (zd (za (zb (S u) e33_3 (za (zc (S u) rfl (zf (ze (hK41 _ _ (wp_ret (zr Tryz.results333  (v := (S u)) rfl ?_)))))))))))))))))
  have q42 : (hdL h) = u := by exact r7_end hr hu hul (by omega)
  have hH43 := (hH36.front 1 rfl).first 1 rfl
  exact ⟨by rw [q42], hH43⟩
theorem r7read_c {E w : World} {R : List Hp} {s : Bs}  (hH : Has E w [R]) (hs : s.length ≤ 1000000) :
  Calls Tryz.prog 278 #[(S s)] w fun e w' => e = .returned (.tuple #[(.agg (yH ((hdD s).1))), (.bool ((hdD s).2))]) ∧ Has E w' [R] := by
 refine zs (args := [(S s)]) Tryz.func278 rfl Tryz.ntmps278 (by simp) (yq fun K1 hK1 => (zd (za (zU (cs := y0A) zT rfl hH fun b2 w3 hH4 => (za (zc (.bool false) rfl (zf (ze (hK1 _ _ (yq fun K5 hK5 => (yq fun K6 hK6 => (zd (za (zb (S s) rfl (za (z8 Tryz.underlying9 rfl (za (o_neq (a := (s.length : Int)) (b := 64) rfl rfl (zf (ze (hK6 _ _ ?_)))))))))))))))))))))
 refine zt rfl (fun h7 => ?_) (fun h7 => ?_)
 ·
  refine yq fun K8 hK8 => (zd (za (zJ (v := (.agg y0A)) (fun _ => by kernel_rfl) (zB (zv (vs := y0L) (c' := y0A) zT rfl rfl rfl rfl y5 (by simp) (by kernel_rfl) (hH4.front 0 rfl) fun w9 hH10 => (za (zc (.bool false) rfl (zf (ze (hK8 _ _ (wp_ret (zx (zR Tryz.results278 rfl (zu (cs := y0L) Tryz.underlying275 rfl zT hH10 (zh 0 rfl) (CellsAt.one rfl)) (x := (.bool false)) rfl ?_)))))))))))))
  have hE_ := hdD_no (s := s) (.inl (by omega))
  have q11 : (hdD s).1 = (Hd.mk 0 0 0 0 0) := by exact (congrArg Prod.fst hE_).trans rfl
  have q12 : (hdD s).2 = false := by exact (congrArg Prod.snd hE_).trans rfl
  have hH13 := (hH10.front 1 rfl).first 1 rfl
  exact ⟨by rw [q11]; rw [q12], hH13⟩
 ·
  refine wp_skip (ze (hK5 _ _ (yq fun K14 hK14 => (zd (za (zb (S s) rfl (za (zk (vs := #[(S s), (yi 8)]) ca182 rfl (zF rfl rfl) (refTake_c hH4.all 8 s (by first | omega | (simp only [List.length_drop]; omega))) ?_))))))))
  rintro _ w17 ⟨rfl, hX15⟩
  refine ⟨_, rfl, ?_⟩
  have hH16 := hX15.of_all
  refine za (zb (.tuple #[(yi ((takeS s 8).1)), (.bool ((takeS s 8).2.2))]) rfl (za (zp (v := (yi ((takeS s 8).1))) rfl rfl (za (zp (v := (.bool ((takeS s 8).2.2))) rfl rfl (za (zc (yi ((takeS s 8).1)) rfl (za (zc (.bool ((takeS s 8).2.2)) rfl (zf (ze (hK14 _ _ (yq fun K18 hK18 => (zd (za (zb (S s) rfl (za (o_ssl_l Tryz.underlying9 rfl rfl (by omega) (by omega) (za (zk (vs := #[(S (s.drop 8)), (yi 8)]) ca182 rfl (zF rfl rfl) (refTake_c hH16.all 8 (s.drop 8) (by first | omega | (simp only [List.length_drop]; omega))) ?_))))))))))))))))))))
  rintro _ w21 ⟨rfl, hX19⟩
  refine ⟨_, rfl, ?_⟩
  have hH20 := hX19.of_all
  refine za (zb (.tuple #[(yi ((takeS (s.drop 8) 8).1)), (.bool ((takeS (s.drop 8) 8).2.2))]) rfl (za (zp (v := (yi ((takeS (s.drop 8) 8).1))) rfl rfl (za (zp (v := (.bool ((takeS (s.drop 8) 8).2.2))) rfl rfl (za (zc (yi ((takeS (s.drop 8) 8).1)) rfl (za (zc (.bool ((takeS (s.drop 8) 8).2.2)) rfl (zf (ze (hK18 _ _ (yq fun K22 hK22 => (zd (za (zb (S s) rfl (za (o_ssl_l Tryz.underlying9 rfl rfl (by omega) (by omega) (za (zk (vs := #[(S (s.drop 16)), (yi 8)]) ca182 rfl (zF rfl rfl) (refTake_c hH20.all 8 (s.drop 16) (by first | omega | (simp only [List.length_drop]; omega))) ?_))))))))))))))))))))
  rintro _ w25 ⟨rfl, hX23⟩
  refine ⟨_, rfl, ?_⟩
  have hH24 := hX23.of_all
  refine za (zb (.tuple #[(yi ((takeS (s.drop 16) 8).1)), (.bool ((takeS (s.drop 16) 8).2.2))]) rfl (za (zp (v := (yi ((takeS (s.drop 16) 8).1))) rfl rfl (za (zp (v := (.bool ((takeS (s.drop 16) 8).2.2))) rfl rfl (za (zc (yi ((takeS (s.drop 16) 8).1)) rfl (za (zc (.bool ((takeS (s.drop 16) 8).2.2)) rfl (zf (ze (hK22 _ _ (yq fun K26 hK26 => (zd (za (zb (S s) rfl (za (o_ssl_l Tryz.underlying9 rfl rfl (by omega) (by omega) (za (zk (vs := #[(S (s.drop 24)), (yi 8)]) ca182 rfl (zF rfl rfl) (refTake_c hH24.all 8 (s.drop 24) (by first | omega | (simp only [List.length_drop]; omega))) ?_))))))))))))))))))))
  rintro _ w29 ⟨rfl, hX27⟩
  refine ⟨_, rfl, ?_⟩
  have hH28 := hX27.of_all
  refine za (zb (.tuple #[(yi ((takeS (s.drop 24) 8).1)), (.bool ((takeS (s.drop 24) 8).2.2))]) rfl (za (zp (v := (yi ((takeS (s.drop 24) 8).1))) rfl rfl (za (zp (v := (.bool ((takeS (s.drop 24) 8).2.2))) rfl rfl (za (zc (yi ((takeS (s.drop 24) 8).1)) rfl (za (zc (.bool ((takeS (s.drop 24) 8).2.2)) rfl (zf (ze (hK26 _ _ (yq fun K30 hK30 => (zd (za (zb (S s) rfl (za (o_ssl_l Tryz.underlying9 rfl rfl (by omega) (by omega) (za (zk (vs := #[(S (s.drop 32)), (yi 8)]) ca182 rfl (zF rfl rfl) (refTake_c hH28.all 8 (s.drop 32) (by first | omega | (simp only [List.length_drop]; omega))) ?_))))))))))))))))))))
  rintro _ w33 ⟨rfl, hX31⟩
  refine ⟨_, rfl, ?_⟩
  have hH32 := hX31.of_all
  refine za (zb (.tuple #[(yi ((takeS (s.drop 32) 8).1)), (.bool ((takeS (s.drop 32) 8).2.2))]) rfl (za (zp (v := (yi ((takeS (s.drop 32) 8).1))) rfl rfl (za (zp (v := (.bool ((takeS (s.drop 32) 8).2.2))) rfl rfl (za (zc (yi ((takeS (s.drop 32) 8).1)) rfl (za (zc (.bool ((takeS (s.drop 32) 8).2.2)) rfl (zf (ze (hK30 _ _ (yq fun K34 hK34 => (zd (za (zb (yi ((takeS s 8).1)) rfl (za (zb (yi ((takeS (s.drop 8) 8).1)) rfl (za (zb (yi ((takeS (s.drop 16) 8).1)) rfl (za (zb (yi ((takeS (s.drop 24) 8).1)) rfl (za (zb (yi ((takeS (s.drop 32) 8).1)) rfl (za (zJ (v := (.agg #[(yi ((takeS s 8).1)), (yi ((takeS (s.drop 8) 8).1)), (yi ((takeS (s.drop 16) 8).1)), (yi ((takeS (s.drop 24) 8).1)), (yi ((takeS (s.drop 32) 8).1))])) (fun _ => by kernel_rfl) ?_))))))))))))))))))))))))))
  refine za (zU (cs := y0A) zT rfl hH32 fun b35 w36 hH37 => (zB (zv (vs := [(yi ((takeS s 8).1)), (yi ((takeS (s.drop 8) 8).1)), (yi ((takeS (s.drop 16) 8).1)), (yi ((takeS (s.drop 24) 8).1)), (yi ((takeS (s.drop 32) 8).1))]) (c' := #[(yi ((takeS s 8).1)), (yi ((takeS (s.drop 8) 8).1)), (yi ((takeS (s.drop 16) 8).1)), (yi ((takeS (s.drop 24) 8).1)), (yi ((takeS (s.drop 32) 8).1))]) zT rfl rfl rfl rfl y5 (by simp) (by kernel_rfl) (hH37.front 0 rfl) fun w38 hH39 => (zf (ze (hK34 _ _ (yq fun K40 hK40 => (yq fun K41 hK41 => (zd (za (zG (cs := [(yi ((takeS s 8).1)), (yi ((takeS (s.drop 8) 8).1)), (yi ((takeS (s.drop 16) 8).1)), (yi ((takeS (s.drop 24) 8).1)), (yi ((takeS (s.drop 32) 8).1))]) Tryz.underlying275 rfl zT rfl hH39 (zh 0 rfl) (CellsAt.one rfl) (za (zk (vs := #[(.agg #[(yi ((takeS s 8).1)), (yi ((takeS (s.drop 8) 8).1)), (yi ((takeS (s.drop 16) 8).1)), (yi ((takeS (s.drop 24) 8).1)), (yi ((takeS (s.drop 32) 8).1))])]) ca332 rfl (zI rfl) (r7right_c (h := (Hd.mk ((takeS s 8).1) ((takeS (s.drop 8) 8).1) ((takeS (s.drop 16) 8).1) ((takeS (s.drop 24) 8).1) ((takeS (s.drop 32) 8).1))) hH39.all ) ?_)))))))))))))
  rintro _ w44 ⟨rfl, hX42⟩
  refine ⟨_, rfl, ?_⟩
  have hH43 := hX42.of_all
  refine za (o_not rfl (za (zb (.bool (!(hdR (Hd.mk ((takeS s 8).1) ((takeS (s.drop 8) 8).1) ((takeS (s.drop 16) 8).1) ((takeS (s.drop 24) 8).1) ((takeS (s.drop 32) 8).1))))) rfl ?_)))
  rcases Bool.eq_false_or_eq_true (!(hdR (Hd.mk ((takeS s 8).1) ((takeS (s.drop 8) 8).1) ((takeS (s.drop 16) 8).1) ((takeS (s.drop 24) 8).1) ((takeS (s.drop 32) 8).1)))) with h45 | h45
  ·
   have h45_n : (hdR (Hd.mk ((takeS s 8).1) ((takeS (s.drop 8) 8).1) ((takeS (s.drop 16) 8).1) ((takeS (s.drop 24) 8).1) ((takeS (s.drop 32) 8).1))) = false := by first | simpa using h45 | exact Bool.of_not_eq_true (fun g_ => by rw [g_] at h45; cases h45)
   refine zi (b' := true) 57 rfl (congrArg Value.bool h45) rfl (zi (b' := true) 57 rfl (congrArg Value.bool h45) rfl (zi (b' := true) 57 rfl (congrArg Value.bool h45) rfl (zi (b' := true) 57 rfl (congrArg Value.bool h45) rfl (za (zq (u := (.bool true)) ((rfl : _ = _).trans (congrArg Value.bool h45)) rfl (zf (ze (hK41 _ _ (zP rfl rfl (yq fun K46 hK46 => (zd (za (zJ (v := (.agg y0A)) (fun _ => by kernel_rfl) (zB (zv (vs := y0L) (c' := y0A) zT rfl rfl rfl rfl y5 (by simp) (by kernel_rfl) (hH43.front 1 rfl) fun w47 hH48 => (za (zc (.bool false) rfl (zf (ze (hK46 _ _ ?_))))))))))))))))))))
   refine wp_ret (zx (zR Tryz.results278 rfl (zu (cs := y0L) Tryz.underlying275 rfl zT hH48 (zh 0 rfl) (CellsAt.one rfl)) (x := (.bool false)) rfl ?_))
   have hE_ := hdD_no (s := s) (.inr (.inl (by simpa using h45)))
   have q49 : (hdD s).1 = (Hd.mk 0 0 0 0 0) := by exact (congrArg Prod.fst hE_).trans rfl
   have q50 : (hdD s).2 = false := by exact (congrArg Prod.snd hE_).trans rfl
   have hH51 := (hH48.front 2 rfl).first 1 rfl
   exact ⟨by rw [q49]; rw [q50], hH51⟩
  ·
   have h45_n : (hdR (Hd.mk ((takeS s 8).1) ((takeS (s.drop 8) 8).1) ((takeS (s.drop 16) 8).1) ((takeS (s.drop 24) 8).1) ((takeS (s.drop 32) 8).1))) = true := by first | simpa using h45 | exact Bool.of_not_eq_false (fun g_ => by rw [g_] at h45; cases h45)
   refine zo 57 rfl (congrArg Value.bool h45) (zG (cs := [(yi ((takeS s 8).1)), (yi ((takeS (s.drop 8) 8).1)), (yi ((takeS (s.drop 16) 8).1)), (yi ((takeS (s.drop 24) 8).1)), (yi ((takeS (s.drop 32) 8).1))]) Tryz.underlying275 rfl zT rfl hH43 (zh 0 rfl) (CellsAt.one rfl) (zo 57 rfl (congrArg Value.bool h45) (zk (vs := #[(.agg #[(yi ((takeS s 8).1)), (yi ((takeS (s.drop 8) 8).1)), (yi ((takeS (s.drop 16) 8).1)), (yi ((takeS (s.drop 24) 8).1)), (yi ((takeS (s.drop 32) 8).1))])]) ca333 rfl (zI rfl) (r7laid_c (h := (Hd.mk ((takeS s 8).1) ((takeS (s.drop 8) 8).1) ((takeS (s.drop 16) 8).1) ((takeS (s.drop 24) 8).1) ((takeS (s.drop 32) 8).1))) hH43.all (by simpa using h45)) ?_)))
   rintro _ w54 ⟨rfl, hX52⟩
   refine ⟨_, rfl, ?_⟩
   have hH53 := hX52.of_all
   refine zo 57 rfl (congrArg Value.bool h45) (zb (S s) rfl (zo 57 rfl (congrArg Value.bool h45) (o_sneq (a := (hdL (Hd.mk ((takeS s 8).1) ((takeS (s.drop 8) 8).1) ((takeS (s.drop 16) 8).1) ((takeS (s.drop 24) 8).1) ((takeS (s.drop 32) 8).1)))) (b := s) rfl rfl (za (zm (u := (.bool (decide ((hdL (Hd.mk ((takeS s 8).1) ((takeS (s.drop 8) 8).1) ((takeS (s.drop 16) 8).1) ((takeS (s.drop 24) 8).1) ((takeS (s.drop 32) 8).1))) ≠ s)))) ((rfl : _ = _).trans (congrArg Value.bool h45)) rfl (zf (ze (hK41 _ _ (zt rfl (fun h55 => ?_) (fun h55 => ?_))))))))))
   ·
    refine yq fun K56 hK56 => (zd (za (zJ (v := (.agg y0A)) (fun _ => by kernel_rfl) (zB (zv (vs := y0L) (c' := y0A) zT rfl rfl rfl rfl y5 (by simp) (by kernel_rfl) (hH53.front 1 rfl) fun w57 hH58 => (za (zc (.bool false) rfl (zf (ze (hK56 _ _ (wp_ret (zx (zR Tryz.results278 rfl (zu (cs := y0L) Tryz.underlying275 rfl zT hH58 (zh 0 rfl) (CellsAt.one rfl)) (x := (.bool false)) rfl ?_)))))))))))))
    have hE_ := hdD_no (s := s) (.inr (.inr h55))
    have q59 : (hdD s).1 = (Hd.mk 0 0 0 0 0) := by exact (congrArg Prod.fst hE_).trans rfl
    have q60 : (hdD s).2 = false := by exact (congrArg Prod.snd hE_).trans rfl
    have hH61 := (hH58.front 2 rfl).first 1 rfl
    exact ⟨by rw [q59]; rw [q60], hH61⟩
   ·
    refine wp_skip (ze (hK40 _ _ (yq fun K62 hK62 => (zd (za (zG (cs := [(yi ((takeS s 8).1)), (yi ((takeS (s.drop 8) 8).1)), (yi ((takeS (s.drop 16) 8).1)), (yi ((takeS (s.drop 24) 8).1)), (yi ((takeS (s.drop 32) 8).1))]) Tryz.underlying275 rfl zT rfl hH53 (zh 0 rfl) (CellsAt.one rfl) (zB (zv (vs := [(yi ((takeS s 8).1)), (yi ((takeS (s.drop 8) 8).1)), (yi ((takeS (s.drop 16) 8).1)), (yi ((takeS (s.drop 24) 8).1)), (yi ((takeS (s.drop 32) 8).1))]) (c' := #[(yi ((takeS s 8).1)), (yi ((takeS (s.drop 8) 8).1)), (yi ((takeS (s.drop 16) 8).1)), (yi ((takeS (s.drop 24) 8).1)), (yi ((takeS (s.drop 32) 8).1))]) zT rfl rfl rfl rfl y5 (by simp) (by kernel_rfl) (hH53.front 1 rfl) fun w63 hH64 => (za (zc (.bool true) rfl (zf (ze (hK62 _ _ (wp_ret (zR Tryz.results278 rfl (zu (cs := [(yi ((takeS s 8).1)), (yi ((takeS (s.drop 8) 8).1)), (yi ((takeS (s.drop 16) 8).1)), (yi ((takeS (s.drop 24) 8).1)), (yi ((takeS (s.drop 32) 8).1))]) Tryz.underlying275 rfl zT hH64 (zh 0 rfl) (CellsAt.one rfl)) (x := (.bool true)) rfl ?_)))))))))))))))
    have hE_ := hdD_yes (s := s) (by omega) (by simpa using h45) (Classical.not_not.1 h55)
    have q65 : (hdD s).1 = (Hd.mk ((takeS s 8).1) ((takeS (s.drop 8) 8).1) ((takeS (s.drop 16) 8).1) ((takeS (s.drop 24) 8).1) ((takeS (s.drop 32) 8).1)) := by exact (congrArg Prod.fst hE_).trans rfl
    have q66 : (hdD s).2 = true := by exact (congrArg Prod.snd hE_).trans rfl
    have hH67 := (hH64.front 2 rfl).first 1 rfl
    exact ⟨by rw [q65]; rw [q66], hH67⟩
theorem r7load_c {E w : World} {R : List Hp} {s : Bs} {t : Bs}  (hH : Has E w [R]) (hs : s.length ≤ 1000000) (ht : t.length ≤ 1000000) :
  Calls Tryz.prog 199 #[(S s), (S t)] w fun e w' => e = .returned (.tuple #[(.agg (yH ((ldD s t).1))), (yi ((ldD s t).2))]) ∧ Has E w' [R] := by
 refine zs (args := [(S s), (S t)]) Tryz.func199 rfl Tryz.ntmps199 (by simp) (yq fun K1 hK1 => (zd (za (zU (cs := y0A) zT rfl hH fun b2 w3 hH4 => (za (zc (yi 0) rfl (zf (ze (hK1 _ _ (yq fun K5 hK5 => (zd (za (zb (S s) rfl (za (zk (vs := #[(S s)]) ca278 rfl (zI rfl) (r7read_c (s := s) hH4.all (by first | omega | (simp only []; omega) | (simp; done) | (simp; omega))) ?_)))))))))))))))
 rintro _ w8 ⟨rfl, hX6⟩
 refine ⟨_, rfl, ?_⟩
 have hH7 := hX6.of_all
 have hnd_ := hdD_nn s
 refine za (zb (.tuple #[(.agg (yH ((hdD s).1))), (.bool ((hdD s).2))]) rfl (za (zp (v := (.agg (yH ((hdD s).1)))) rfl rfl (za (zp (v := (.bool ((hdD s).2))) rfl rfl (za (zU (cs := y0A) zT rfl hH7 fun b9 w10 hH11 => (zB (zv (vs := (yL ((hdD s).1))) (c' := (yH ((hdD s).1))) zT rfl rfl rfl rfl y5 (by simp) (by kernel_rfl) (hH11.front 0 rfl) fun w12 hH13 => (za (zc (.bool ((hdD s).2)) rfl (zf (ze (hK5 _ _ (yq fun K14 hK14 => (zd (za (zb (S t) rfl (za (zk (vs := #[(S t)]) ca278 rfl (zI rfl) (r7read_c (s := t) hH13.all (by first | omega | (simp only []; omega) | (simp; done) | (simp; omega))) ?_))))))))))))))))))))
 rintro _ w17 ⟨rfl, hX15⟩
 refine ⟨_, rfl, ?_⟩
 have hH16 := hX15.of_all
 have hnd_ := hdD_nn t
 refine za (zb (.tuple #[(.agg (yH ((hdD t).1))), (.bool ((hdD t).2))]) rfl (za (zp (v := (.agg (yH ((hdD t).1)))) rfl rfl (za (zp (v := (.bool ((hdD t).2))) rfl rfl (za (zU (cs := y0A) zT rfl hH16 fun b18 w19 hH20 => (zB (zv (vs := (yL ((hdD t).1))) (c' := (yH ((hdD t).1))) zT rfl rfl rfl rfl y5 (by simp) (by kernel_rfl) (hH20.front 0 rfl) fun w21 hH22 => (za (zc (.bool ((hdD t).2)) rfl (zf (ze (hK14 _ _ (yq fun K23 hK23 => (zd (za (zb (.bool ((hdD s).2)) rfl (za (zb (.bool ((hdD s).2)) rfl ?_))))))))))))))))))))
 rcases Bool.eq_false_or_eq_true ((hdD s).2) with h24 | h24
 ·
  refine zo 21 rfl (congrArg Value.bool h24) (zg (k := 0) (fun _ => by kernel_rfl) rfl (zo 21 rfl (congrArg Value.bool h24) (zj (v := (yi ((hdD s).1).seq)) Tryz.underlying3 rfl rfl hH22 (zh 1 rfl) (CellsAt.one rfl) (zo 21 rfl (congrArg Value.bool h24) (o_rem (a := ((hdD s).1).seq) (b := 2) (c := (((hdD s).1).seq) % 2) rfl rfl (by omega) ((Int.tmod_eq_emod_of_nonneg (by first | exact Int.natCast_nonneg _ | omega))) (zo 21 rfl (congrArg Value.bool h24) (yc (a := (((hdD s).1).seq) % 2) (b := 0) rfl rfl (za (zq (u := (.bool (decide ((((hdD s).1).seq) % 2 = 0)))) ((rfl : _ = _).trans (congrArg Value.bool h24)) rfl (za (zc (.bool (decide ((((hdD s).1).seq) % 2 = 0))) rfl (zf (ze (hK23 _ _ (yq fun K25 hK25 => (zd (za (zb (.bool ((hdD t).2)) rfl (za (zb (.bool ((hdD t).2)) rfl ?_))))))))))))))))))))
  rcases Bool.eq_false_or_eq_true ((hdD t).2) with h26 | h26
  ·
   refine zo 28 rfl (congrArg Value.bool h26) (zg (k := 0) (fun _ => by kernel_rfl) rfl (zo 28 rfl (congrArg Value.bool h26) (zj (v := (yi ((hdD t).1).seq)) Tryz.underlying3 rfl rfl hH22 (zh 0 rfl) (CellsAt.one rfl) (zo 28 rfl (congrArg Value.bool h26) (o_rem (a := ((hdD t).1).seq) (b := 2) (c := (((hdD t).1).seq) % 2) rfl rfl (by omega) ((Int.tmod_eq_emod_of_nonneg (by first | exact Int.natCast_nonneg _ | omega))) (zo 28 rfl (congrArg Value.bool h26) (yc (a := (((hdD t).1).seq) % 2) (b := 1) rfl rfl (za (zq (u := (.bool (decide ((((hdD t).1).seq) % 2 = 1)))) ((rfl : _ = _).trans (congrArg Value.bool h26)) rfl (za (zc (.bool (decide ((((hdD t).1).seq) % 2 = 1))) rfl (zf (ze (hK25 _ _ (yq fun K27 hK27 => (wp_block (yq fun K28 hK28 => (zd (za (zb (.bool (decide ((((hdD s).1).seq) % 2 = 0))) rfl (za (zb (.bool (decide ((((hdD s).1).seq) % 2 = 0))) rfl ?_))))))))))))))))))))))
   by_cases h29 : (((hdD s).1).seq) % 2 = 0
   ·
    refine zo 36 rfl (cT h29) (zb (.bool (decide ((((hdD t).1).seq) % 2 = 1))) rfl (zo 36 rfl (cT h29) (o_not2 (b := decide ((((hdD t).1).seq) % 2 = 1)) (b' := decide (¬ ((((hdD t).1).seq) % 2 = 1))) rfl not_dec (zo 36 rfl (cT h29) (zb (.bool (decide (¬ ((((hdD t).1).seq) % 2 = 1)))) rfl ?_)))))
    by_cases h30 : ¬ ((((hdD t).1).seq) % 2 = 1)
    ·
     refine zi (b' := true) 39 rfl (cT h30) rfl (zi (b' := true) 39 rfl (cT h30) rfl (zi (b' := true) 39 rfl (cT h30) rfl (zi (b' := true) 39 rfl (cT h30) rfl (zi (b' := true) 39 rfl (cT h30) rfl (zo 36 rfl (cT h29) (zq (u := (.bool true)) ((rfl : _ = _).trans (cT h30)) rfl (za (zq (u := (.bool true)) ((rfl : _ = _).trans (cT h29)) rfl (za (zc (.bool true) rfl (zf (ze (hK28 _ _ (zP rfl rfl (yq fun K31 hK31 => (zd (za (zG (cs := (yL ((hdD s).1))) Tryz.underlying275 rfl zT rfl hH22 (zh 1 rfl) (CellsAt.one rfl) (zB (zv (vs := (yL ((hdD s).1))) (c' := (yH ((hdD s).1))) zT rfl rfl rfl rfl y5 (by simp) (by kernel_rfl) (hH22.front 2 rfl) fun w32 hH33 => ?_))))))))))))))))))))
     refine za (zc (yi 0) rfl (zf (ze (hK31 _ _ (wp_ret (zZ (zx (zR Tryz.results199 rfl (zu (cs := (yL ((hdD s).1))) Tryz.underlying275 rfl zT hH33 (zh 0 rfl) (CellsAt.one rfl)) (x := (yi 0)) rfl ?_))))))))
     have hE_ : ldD s t = (((hdD s).1), 0) := by unfold ldD; simp [h24, h26, h29, h30]
     have q34 : (ldD s t).1 = ((hdD s).1) := by exact (congrArg Prod.fst hE_).trans rfl
     have q35 : (ldD s t).2 = 0 := by exact (congrArg Prod.snd hE_).trans rfl
     have hH36 := (hH33.front 3 rfl).first 1 rfl
     exact ⟨by rw [q34]; rw [q35], hH36⟩
    ·
     refine zo 39 rfl (cF h30) (zg (k := 0) (fun _ => by kernel_rfl) rfl (zo 39 rfl (cF h30) (zj (v := (yi ((hdD s).1).seq)) Tryz.underlying3 rfl rfl hH22 (zh 1 rfl) (CellsAt.one rfl) (zo 39 rfl (cF h30) (zg (k := 0) (fun _ => by kernel_rfl) rfl (zo 39 rfl (cF h30) (zj (v := (yi ((hdD t).1).seq)) Tryz.underlying3 rfl rfl hH22 (zh 0 rfl) (CellsAt.one rfl) (zo 39 rfl (cF h30) (o_gtr (a := ((hdD s).1).seq) (b := ((hdD t).1).seq) rfl rfl (zo 36 rfl (cT h29) (zm (u := (.bool (decide (((hdD t).1).seq < ((hdD s).1).seq)))) ((rfl : _ = _).trans (cF h30)) rfl (za (zq (u := (.bool (decide (((hdD t).1).seq < ((hdD s).1).seq)))) ((rfl : _ = _).trans (cT h29)) rfl (za (zc (.bool (decide (((hdD t).1).seq < ((hdD s).1).seq))) rfl (zf (ze (hK28 _ _ (zt rfl (fun h37 => ?_) (fun h37 => ?_))))))))))))))))))))
     ·
      refine yq fun K38 hK38 => (zd (za (zG (cs := (yL ((hdD s).1))) Tryz.underlying275 rfl zT rfl hH22 (zh 1 rfl) (CellsAt.one rfl) (zB (zv (vs := (yL ((hdD s).1))) (c' := (yH ((hdD s).1))) zT rfl rfl rfl rfl y5 (by simp) (by kernel_rfl) (hH22.front 2 rfl) fun w39 hH40 => (za (zc (yi 0) rfl (zf (ze (hK38 _ _ (wp_ret (zZ (zx (zR Tryz.results199 rfl (zu (cs := (yL ((hdD s).1))) Tryz.underlying275 rfl zT hH40 (zh 0 rfl) (CellsAt.one rfl)) (x := (yi 0)) rfl ?_))))))))))))))
      have hE_ : ldD s t = (((hdD s).1), 0) := by unfold ldD; simp [h24, h26, h29, h30, h37]
      have q41 : (ldD s t).1 = ((hdD s).1) := by exact (congrArg Prod.fst hE_).trans rfl
      have q42 : (ldD s t).2 = 0 := by exact (congrArg Prod.snd hE_).trans rfl
      have hH43 := (hH40.front 3 rfl).first 1 rfl
      exact ⟨by rw [q41]; rw [q42], hH43⟩
     ·
      refine yq fun K44 hK44 => (zd (za (zb (.bool (decide ((((hdD t).1).seq) % 2 = 1))) rfl (za (zc (.bool (decide ((((hdD t).1).seq) % 2 = 1))) rfl (zf (ze (hK44 _ _ (zP rfl (decide_eq_true (Classical.not_not.1 h30)) (yq fun K45 hK45 => (zd (za (zG (cs := (yL ((hdD t).1))) Tryz.underlying275 rfl zT rfl hH22 (zh 0 rfl) (CellsAt.one rfl) (zB (zv (vs := (yL ((hdD t).1))) (c' := (yH ((hdD t).1))) zT rfl rfl rfl rfl y5 (by simp) (by kernel_rfl) (hH22.front 2 rfl) fun w46 hH47 => (za (zc (yi 0) rfl (zf (ze (hK45 _ _ (wp_ret ?_)))))))))))))))))))))
      refine zZ (zx (zR Tryz.results199 rfl (zu (cs := (yL ((hdD t).1))) Tryz.underlying275 rfl zT hH47 (zh 0 rfl) (CellsAt.one rfl)) (x := (yi 0)) rfl ?_))
      have hE_ : ldD s t = (((hdD t).1), 0) := by unfold ldD; simp [h24, h26, h29, h30, h37]
      have q48 : (ldD s t).1 = ((hdD t).1) := by exact (congrArg Prod.fst hE_).trans rfl
      have q49 : (ldD s t).2 = 0 := by exact (congrArg Prod.snd hE_).trans rfl
      have hH50 := (hH47.front 3 rfl).first 1 rfl
      exact ⟨by rw [q48]; rw [q49], hH50⟩
   ·
    refine zi (b' := false) 36 rfl (cF h29) rfl (zi (b' := false) 36 rfl (cF h29) rfl (zi (b' := false) 36 rfl (cF h29) rfl (zE 39 rfl rfl (zE 39 rfl rfl (zE 39 rfl rfl (zE 39 rfl rfl (zE 39 rfl rfl (zi (b' := false) 36 rfl (cF h29) rfl (za (zm (u := (.bool false)) ((rfl : _ = _).trans (cF h29)) rfl (za (zc (.bool false) rfl (zf (ze (hK28 _ _ (zK rfl rfl (yq fun K51 hK51 => ?_)))))))))))))))))
    refine zd (za (zb (.bool (decide ((((hdD t).1).seq) % 2 = 1))) rfl (za (zc (.bool (decide ((((hdD t).1).seq) % 2 = 1))) rfl (zf (ze (hK51 _ _ (zt rfl (fun h52 => ?_) (fun h52 => ?_)))))))))
    ·
     refine yq fun K53 hK53 => (zd (za (zG (cs := (yL ((hdD t).1))) Tryz.underlying275 rfl zT rfl hH22 (zh 0 rfl) (CellsAt.one rfl) (zB (zv (vs := (yL ((hdD t).1))) (c' := (yH ((hdD t).1))) zT rfl rfl rfl rfl y5 (by simp) (by kernel_rfl) (hH22.front 2 rfl) fun w54 hH55 => (za (zc (yi 0) rfl (zf (ze (hK53 _ _ (wp_ret (zZ (zx (zR Tryz.results199 rfl (zu (cs := (yL ((hdD t).1))) Tryz.underlying275 rfl zT hH55 (zh 0 rfl) (CellsAt.one rfl)) (x := (yi 0)) rfl ?_))))))))))))))
     have hE_ : ldD s t = (((hdD t).1), 0) := by unfold ldD; simp [h24, h26, h29, h52]
     have q56 : (ldD s t).1 = ((hdD t).1) := by exact (congrArg Prod.fst hE_).trans rfl
     have q57 : (ldD s t).2 = 0 := by exact (congrArg Prod.snd hE_).trans rfl
     have hH58 := (hH55.front 3 rfl).first 1 rfl
     exact ⟨by rw [q56]; rw [q57], hH58⟩
    ·
     refine yq fun K59 hK59 => (zd (za (zb (S s) rfl (za (o_make Tryz.underlying30 ti5 rfl rfl (by omega) (by omega) (by omega) (by omega) hH22 fun v60 s61 w63 ho62 hH64 => ?_)))))
     have ho65 : Own 5 1 v60 (List.replicate ((64 : Int)).toNat (0 : UInt8)).length ((List.replicate ((64 : Int)).toNat (0 : UInt8)).map bV) s61 := by rw [List.length_replicate, List.map_replicate, ← made_rep]; exact ho62
     obtain ⟨p66, c67, rfl⟩ := (Own.sl ho62).form
     refine za (o_bstr Tryz.underlying30 Tryz.underlying5 Tryz.underlying9 rfl ho65.sl hH64 (zh 0 rfl) (za (o_seql (a := s) (b := (List.replicate ((64 : Int)).toNat (0 : UInt8))) rfl rfl (za (zb (.bool (decide (s = (List.replicate ((64 : Int)).toNat (0 : UInt8))))) rfl ?_)))))
     by_cases h68 : s = (List.replicate ((64 : Int)).toNat (0 : UInt8))
     ·
      refine zo 56 rfl (cT h68) (zb (S t) rfl (zo 56 rfl (cT h68) (zb (S s) rfl (zo 56 rfl (cT h68) (o_seql (a := t) (b := s) rfl rfl (za (zq (u := (.bool (decide (t = s)))) ((rfl : _ = _).trans (cT h68)) rfl (za (zc (.bool (decide (t = s))) rfl (zf (ze (hK59 _ _ (zt rfl (fun h69 => ?_) (fun h69 => ?_))))))))))))))
      ·
       refine yq fun K70 hK70 => (zd (za (zJ (v := (.agg y0A)) (fun _ => by kernel_rfl) (zB (zv (vs := y0L) (c' := y0A) zT rfl rfl rfl rfl y5 (by simp) (by kernel_rfl) (hH64.front 3 rfl) fun w71 hH72 => (za (zc (yi 7) rfl (zf (ze (hK70 _ _ (wp_ret (zZ (zx (zR Tryz.results199 rfl (zu (cs := y0L) Tryz.underlying275 rfl zT hH72 (zh 0 rfl) (CellsAt.one rfl)) (x := (yi 7)) rfl ?_))))))))))))))
       have hE_ := ldD_last (s := s) (t := t) (by simp [h24, h26, h29, h52]) (by simp [h24, h26, h29, h52])
       rw [if_pos ⟨h68, h69⟩] at hE_
       have q73 : (ldD s t).1 = (Hd.mk 0 0 0 0 0) := by exact (congrArg Prod.fst hE_).trans rfl
       have q74 : (ldD s t).2 = 7 := by exact (congrArg Prod.snd hE_).trans rfl
       have hH75 := (hH72.front 4 rfl).first 1 rfl
       exact ⟨by rw [q73]; rw [q74], hH75⟩
      ·
       refine wp_skip (zC (ze (hK27 _ _ (yq fun K76 hK76 => (zd (za (zJ (v := (.agg y0A)) (fun _ => by kernel_rfl) (zB (zv (vs := y0L) (c' := y0A) zT rfl rfl rfl rfl y5 (by simp) (by kernel_rfl) (hH64.front 3 rfl) fun w77 hH78 => (za (zc (yi 9) rfl (zf (ze (hK76 _ _ (wp_ret (zR Tryz.results199 rfl (zu (cs := y0L) Tryz.underlying275 rfl zT hH78 (zh 0 rfl) (CellsAt.one rfl)) (x := (yi 9)) rfl ?_))))))))))))))))
       have hE_ := ldD_last (s := s) (t := t) (by simp [h24, h26, h29, h52]) (by simp [h24, h26, h29, h52])
       rw [if_neg (fun k_ => by first | exact h69 k_.2)] at hE_
       have q79 : (ldD s t).1 = (Hd.mk 0 0 0 0 0) := by exact (congrArg Prod.fst hE_).trans rfl
       have q80 : (ldD s t).2 = 9 := by exact (congrArg Prod.snd hE_).trans rfl
       have hH81 := (hH78.front 4 rfl).first 1 rfl
       exact ⟨by rw [q79]; rw [q80], hH81⟩
     ·
      refine zi (b' := false) 56 rfl (cF h68) rfl (zi (b' := false) 56 rfl (cF h68) rfl (zi (b' := false) 56 rfl (cF h68) rfl (za (zm (u := (.bool false)) ((rfl : _ = _).trans (cF h68)) rfl (za (zc (.bool false) rfl (zf (ze (hK59 _ _ (zK rfl rfl (wp_skip (zC (ze (hK27 _ _ (yq fun K82 hK82 => (zd (za (zJ (v := (.agg y0A)) (fun _ => by kernel_rfl) (zB (zv (vs := y0L) (c' := y0A) zT rfl rfl rfl rfl y5 (by simp) (by kernel_rfl) (hH64.front 3 rfl) fun w83 hH84 => ?_))))))))))))))))))))
      refine za (zc (yi 9) rfl (zf (ze (hK82 _ _ (wp_ret (zR Tryz.results199 rfl (zu (cs := y0L) Tryz.underlying275 rfl zT hH84 (zh 0 rfl) (CellsAt.one rfl)) (x := (yi 9)) rfl ?_))))))
      have hE_ := ldD_last (s := s) (t := t) (by simp [h24, h26, h29, h52]) (by simp [h24, h26, h29, h52])
      rw [if_neg (fun k_ => by first | exact h68 k_.1)] at hE_
      have q85 : (ldD s t).1 = (Hd.mk 0 0 0 0 0) := by exact (congrArg Prod.fst hE_).trans rfl
      have q86 : (ldD s t).2 = 9 := by exact (congrArg Prod.snd hE_).trans rfl
      have hH87 := (hH84.front 4 rfl).first 1 rfl
      exact ⟨by rw [q85]; rw [q86], hH87⟩
  ·
   refine zi (b' := false) 28 rfl (congrArg Value.bool h26) rfl (zi (b' := false) 28 rfl (congrArg Value.bool h26) rfl (zi (b' := false) 28 rfl (congrArg Value.bool h26) rfl (zi (b' := false) 28 rfl (congrArg Value.bool h26) rfl (za (zm (u := (.bool false)) ((rfl : _ = _).trans (congrArg Value.bool h26)) rfl (za (zc (.bool false) rfl (zf (ze (hK25 _ _ (yq fun K88 hK88 => (wp_block (yq fun K89 hK89 => (zd (za (zb (.bool (decide ((((hdD s).1).seq) % 2 = 0))) rfl (za (zb (.bool (decide ((((hdD s).1).seq) % 2 = 0))) rfl ?_))))))))))))))))))
   by_cases h90 : (((hdD s).1).seq) % 2 = 0
   ·
    refine zo 36 rfl (cT h90) (zb (.bool false) rfl (zo 36 rfl (cT h90) (o_not rfl (zo 36 rfl (cT h90) (zb (.bool true) rfl (zi (b' := true) 39 rfl rfl rfl (zi (b' := true) 39 rfl rfl rfl (zi (b' := true) 39 rfl rfl rfl (zi (b' := true) 39 rfl rfl rfl (zi (b' := true) 39 rfl rfl rfl (zo 36 rfl (cT h90) (zq (u := (.bool true)) rfl rfl (za (zq (u := (.bool true)) ((rfl : _ = _).trans (cT h90)) rfl (za (zc (.bool true) rfl (zf (ze (hK89 _ _ (zP rfl rfl (yq fun K91 hK91 => ?_)))))))))))))))))))))
    refine zd (za (zG (cs := (yL ((hdD s).1))) Tryz.underlying275 rfl zT rfl hH22 (zh 1 rfl) (CellsAt.one rfl) (zB (zv (vs := (yL ((hdD s).1))) (c' := (yH ((hdD s).1))) zT rfl rfl rfl rfl y5 (by simp) (by kernel_rfl) (hH22.front 2 rfl) fun w92 hH93 => (za (zc (yi 0) rfl (zf (ze (hK91 _ _ (wp_ret (zZ (zx (zR Tryz.results199 rfl (zu (cs := (yL ((hdD s).1))) Tryz.underlying275 rfl zT hH93 (zh 0 rfl) (CellsAt.one rfl)) (x := (yi 0)) rfl ?_)))))))))))))
    have hE_ : ldD s t = (((hdD s).1), 0) := by unfold ldD; simp [h24, h26, h90]
    have q94 : (ldD s t).1 = ((hdD s).1) := by exact (congrArg Prod.fst hE_).trans rfl
    have q95 : (ldD s t).2 = 0 := by exact (congrArg Prod.snd hE_).trans rfl
    have hH96 := (hH93.front 3 rfl).first 1 rfl
    exact ⟨by rw [q94]; rw [q95], hH96⟩
   ·
    refine zi (b' := false) 36 rfl (cF h90) rfl (zi (b' := false) 36 rfl (cF h90) rfl (zi (b' := false) 36 rfl (cF h90) rfl (zE 39 rfl rfl (zE 39 rfl rfl (zE 39 rfl rfl (zE 39 rfl rfl (zE 39 rfl rfl (zi (b' := false) 36 rfl (cF h90) rfl (za (zm (u := (.bool false)) ((rfl : _ = _).trans (cF h90)) rfl (za (zc (.bool false) rfl (zf (ze (hK89 _ _ (zK rfl rfl (yq fun K97 hK97 => ?_)))))))))))))))))
    refine zd (za (zb (.bool false) rfl (za (zc (.bool false) rfl (zf (ze (hK97 _ _ (zK rfl rfl (yq fun K98 hK98 => (zd (za (zb (S s) rfl (za (o_make Tryz.underlying30 ti5 rfl rfl (by omega) (by omega) (by omega) (by omega) hH22 fun v99 s100 w102 ho101 hH103 => ?_))))))))))))))
    have ho104 : Own 5 1 v99 (List.replicate ((64 : Int)).toNat (0 : UInt8)).length ((List.replicate ((64 : Int)).toNat (0 : UInt8)).map bV) s100 := by rw [List.length_replicate, List.map_replicate, ← made_rep]; exact ho101
    obtain ⟨p105, c106, rfl⟩ := (Own.sl ho101).form
    refine za (o_bstr Tryz.underlying30 Tryz.underlying5 Tryz.underlying9 rfl ho104.sl hH103 (zh 0 rfl) (za (o_seql (a := s) (b := (List.replicate ((64 : Int)).toNat (0 : UInt8))) rfl rfl (za (zb (.bool (decide (s = (List.replicate ((64 : Int)).toNat (0 : UInt8))))) rfl ?_)))))
    by_cases h107 : s = (List.replicate ((64 : Int)).toNat (0 : UInt8))
    ·
     refine zo 56 rfl (cT h107) (zb (S t) rfl (zo 56 rfl (cT h107) (zb (S s) rfl (zo 56 rfl (cT h107) (o_seql (a := t) (b := s) rfl rfl (za (zq (u := (.bool (decide (t = s)))) ((rfl : _ = _).trans (cT h107)) rfl (za (zc (.bool (decide (t = s))) rfl (zf (ze (hK98 _ _ (zt rfl (fun h108 => ?_) (fun h108 => ?_))))))))))))))
     ·
      refine yq fun K109 hK109 => (zd (za (zJ (v := (.agg y0A)) (fun _ => by kernel_rfl) (zB (zv (vs := y0L) (c' := y0A) zT rfl rfl rfl rfl y5 (by simp) (by kernel_rfl) (hH103.front 3 rfl) fun w110 hH111 => (za (zc (yi 7) rfl (zf (ze (hK109 _ _ (wp_ret (zZ (zx (zR Tryz.results199 rfl (zu (cs := y0L) Tryz.underlying275 rfl zT hH111 (zh 0 rfl) (CellsAt.one rfl)) (x := (yi 7)) rfl ?_))))))))))))))
      have hE_ := ldD_last (s := s) (t := t) (by simp [h24, h26, h90]) (by simp [h24, h26, h90])
      rw [if_pos ⟨h107, h108⟩] at hE_
      have q112 : (ldD s t).1 = (Hd.mk 0 0 0 0 0) := by exact (congrArg Prod.fst hE_).trans rfl
      have q113 : (ldD s t).2 = 7 := by exact (congrArg Prod.snd hE_).trans rfl
      have hH114 := (hH111.front 4 rfl).first 1 rfl
      exact ⟨by rw [q112]; rw [q113], hH114⟩
     ·
      refine wp_skip (zC (ze (hK88 _ _ (yq fun K115 hK115 => (zd (za (zJ (v := (.agg y0A)) (fun _ => by kernel_rfl) (zB (zv (vs := y0L) (c' := y0A) zT rfl rfl rfl rfl y5 (by simp) (by kernel_rfl) (hH103.front 3 rfl) fun w116 hH117 => (za (zc (yi 9) rfl (zf (ze (hK115 _ _ (wp_ret (zR Tryz.results199 rfl (zu (cs := y0L) Tryz.underlying275 rfl zT hH117 (zh 0 rfl) (CellsAt.one rfl)) (x := (yi 9)) rfl ?_))))))))))))))))
      have hE_ := ldD_last (s := s) (t := t) (by simp [h24, h26, h90]) (by simp [h24, h26, h90])
      rw [if_neg (fun k_ => by first | exact h108 k_.2)] at hE_
      have q118 : (ldD s t).1 = (Hd.mk 0 0 0 0 0) := by exact (congrArg Prod.fst hE_).trans rfl
      have q119 : (ldD s t).2 = 9 := by exact (congrArg Prod.snd hE_).trans rfl
      have hH120 := (hH117.front 4 rfl).first 1 rfl
      exact ⟨by rw [q118]; rw [q119], hH120⟩
    ·
     refine zi (b' := false) 56 rfl (cF h107) rfl (zi (b' := false) 56 rfl (cF h107) rfl (zi (b' := false) 56 rfl (cF h107) rfl (za (zm (u := (.bool false)) ((rfl : _ = _).trans (cF h107)) rfl (za (zc (.bool false) rfl (zf (ze (hK98 _ _ (zK rfl rfl (wp_skip (zC (ze (hK88 _ _ (yq fun K121 hK121 => (zd (za (zJ (v := (.agg y0A)) (fun _ => by kernel_rfl) (zB (zv (vs := y0L) (c' := y0A) zT rfl rfl rfl rfl y5 (by simp) (by kernel_rfl) (hH103.front 3 rfl) fun w122 hH123 => ?_))))))))))))))))))))
     refine za (zc (yi 9) rfl (zf (ze (hK121 _ _ (wp_ret (zR Tryz.results199 rfl (zu (cs := y0L) Tryz.underlying275 rfl zT hH123 (zh 0 rfl) (CellsAt.one rfl)) (x := (yi 9)) rfl ?_))))))
     have hE_ := ldD_last (s := s) (t := t) (by simp [h24, h26, h90]) (by simp [h24, h26, h90])
     rw [if_neg (fun k_ => by first | exact h107 k_.1)] at hE_
     have q124 : (ldD s t).1 = (Hd.mk 0 0 0 0 0) := by exact (congrArg Prod.fst hE_).trans rfl
     have q125 : (ldD s t).2 = 9 := by exact (congrArg Prod.snd hE_).trans rfl
     have hH126 := (hH123.front 4 rfl).first 1 rfl
     exact ⟨by rw [q124]; rw [q125], hH126⟩
 ·
  refine zi (b' := false) 21 rfl (congrArg Value.bool h24) rfl (zi (b' := false) 21 rfl (congrArg Value.bool h24) rfl (zi (b' := false) 21 rfl (congrArg Value.bool h24) rfl (zi (b' := false) 21 rfl (congrArg Value.bool h24) rfl (za (zm (u := (.bool false)) ((rfl : _ = _).trans (congrArg Value.bool h24)) rfl (za (zc (.bool false) rfl (zf (ze (hK23 _ _ (yq fun K127 hK127 => (zd (za (zb (.bool ((hdD t).2)) rfl (za (zb (.bool ((hdD t).2)) rfl ?_))))))))))))))))
  rcases Bool.eq_false_or_eq_true ((hdD t).2) with h128 | h128
  ·
   refine zo 28 rfl (congrArg Value.bool h128) (zg (k := 0) (fun _ => by kernel_rfl) rfl (zo 28 rfl (congrArg Value.bool h128) (zj (v := (yi ((hdD t).1).seq)) Tryz.underlying3 rfl rfl hH22 (zh 0 rfl) (CellsAt.one rfl) (zo 28 rfl (congrArg Value.bool h128) (o_rem (a := ((hdD t).1).seq) (b := 2) (c := (((hdD t).1).seq) % 2) rfl rfl (by omega) ((Int.tmod_eq_emod_of_nonneg (by first | exact Int.natCast_nonneg _ | omega))) (zo 28 rfl (congrArg Value.bool h128) (yc (a := (((hdD t).1).seq) % 2) (b := 1) rfl rfl (za (zq (u := (.bool (decide ((((hdD t).1).seq) % 2 = 1)))) ((rfl : _ = _).trans (congrArg Value.bool h128)) rfl (za (zc (.bool (decide ((((hdD t).1).seq) % 2 = 1))) rfl (zf (ze (hK127 _ _ (yq fun K129 hK129 => (wp_block (yq fun K130 hK130 => (zd (za (zb (.bool false) rfl (za (zb (.bool false) rfl (zi (b' := false) 36 rfl rfl rfl ?_)))))))))))))))))))))))
   refine zi (b' := false) 36 rfl rfl rfl (zi (b' := false) 36 rfl rfl rfl (zE 39 rfl rfl (zE 39 rfl rfl (zE 39 rfl rfl (zE 39 rfl rfl (zE 39 rfl rfl (zi (b' := false) 36 rfl rfl rfl (za (zm (u := (.bool false)) rfl rfl (za (zc (.bool false) rfl (zf (ze (hK130 _ _ (zK rfl rfl (yq fun K131 hK131 => (zd ?_)))))))))))))))))
   refine za (zb (.bool (decide ((((hdD t).1).seq) % 2 = 1))) rfl (za (zc (.bool (decide ((((hdD t).1).seq) % 2 = 1))) rfl (zf (ze (hK131 _ _ (zt rfl (fun h132 => ?_) (fun h132 => ?_))))))))
   ·
    refine yq fun K133 hK133 => (zd (za (zG (cs := (yL ((hdD t).1))) Tryz.underlying275 rfl zT rfl hH22 (zh 0 rfl) (CellsAt.one rfl) (zB (zv (vs := (yL ((hdD t).1))) (c' := (yH ((hdD t).1))) zT rfl rfl rfl rfl y5 (by simp) (by kernel_rfl) (hH22.front 2 rfl) fun w134 hH135 => (za (zc (yi 0) rfl (zf (ze (hK133 _ _ (wp_ret (zZ (zx (zR Tryz.results199 rfl (zu (cs := (yL ((hdD t).1))) Tryz.underlying275 rfl zT hH135 (zh 0 rfl) (CellsAt.one rfl)) (x := (yi 0)) rfl ?_))))))))))))))
    have hE_ : ldD s t = (((hdD t).1), 0) := by unfold ldD; simp [h24, h128, h132]
    have q136 : (ldD s t).1 = ((hdD t).1) := by exact (congrArg Prod.fst hE_).trans rfl
    have q137 : (ldD s t).2 = 0 := by exact (congrArg Prod.snd hE_).trans rfl
    have hH138 := (hH135.front 3 rfl).first 1 rfl
    exact ⟨by rw [q136]; rw [q137], hH138⟩
   ·
    refine yq fun K139 hK139 => (zd (za (zb (S s) rfl (za (o_make Tryz.underlying30 ti5 rfl rfl (by omega) (by omega) (by omega) (by omega) hH22 fun v140 s141 w143 ho142 hH144 => ?_)))))
    have ho145 : Own 5 1 v140 (List.replicate ((64 : Int)).toNat (0 : UInt8)).length ((List.replicate ((64 : Int)).toNat (0 : UInt8)).map bV) s141 := by rw [List.length_replicate, List.map_replicate, ← made_rep]; exact ho142
    obtain ⟨p146, c147, rfl⟩ := (Own.sl ho142).form
    refine za (o_bstr Tryz.underlying30 Tryz.underlying5 Tryz.underlying9 rfl ho145.sl hH144 (zh 0 rfl) (za (o_seql (a := s) (b := (List.replicate ((64 : Int)).toNat (0 : UInt8))) rfl rfl (za (zb (.bool (decide (s = (List.replicate ((64 : Int)).toNat (0 : UInt8))))) rfl ?_)))))
    by_cases h148 : s = (List.replicate ((64 : Int)).toNat (0 : UInt8))
    ·
     refine zo 56 rfl (cT h148) (zb (S t) rfl (zo 56 rfl (cT h148) (zb (S s) rfl (zo 56 rfl (cT h148) (o_seql (a := t) (b := s) rfl rfl (za (zq (u := (.bool (decide (t = s)))) ((rfl : _ = _).trans (cT h148)) rfl (za (zc (.bool (decide (t = s))) rfl (zf (ze (hK139 _ _ (zt rfl (fun h149 => ?_) (fun h149 => ?_))))))))))))))
     ·
      refine yq fun K150 hK150 => (zd (za (zJ (v := (.agg y0A)) (fun _ => by kernel_rfl) (zB (zv (vs := y0L) (c' := y0A) zT rfl rfl rfl rfl y5 (by simp) (by kernel_rfl) (hH144.front 3 rfl) fun w151 hH152 => (za (zc (yi 7) rfl (zf (ze (hK150 _ _ (wp_ret (zZ (zx (zR Tryz.results199 rfl (zu (cs := y0L) Tryz.underlying275 rfl zT hH152 (zh 0 rfl) (CellsAt.one rfl)) (x := (yi 7)) rfl ?_))))))))))))))
      have hE_ := ldD_last (s := s) (t := t) (by simp [h24, h128, h132]) (by simp [h24, h128, h132])
      rw [if_pos ⟨h148, h149⟩] at hE_
      have q153 : (ldD s t).1 = (Hd.mk 0 0 0 0 0) := by exact (congrArg Prod.fst hE_).trans rfl
      have q154 : (ldD s t).2 = 7 := by exact (congrArg Prod.snd hE_).trans rfl
      have hH155 := (hH152.front 4 rfl).first 1 rfl
      exact ⟨by rw [q153]; rw [q154], hH155⟩
     ·
      refine wp_skip (zC (ze (hK129 _ _ (yq fun K156 hK156 => (zd (za (zJ (v := (.agg y0A)) (fun _ => by kernel_rfl) (zB (zv (vs := y0L) (c' := y0A) zT rfl rfl rfl rfl y5 (by simp) (by kernel_rfl) (hH144.front 3 rfl) fun w157 hH158 => (za (zc (yi 9) rfl (zf (ze (hK156 _ _ (wp_ret (zR Tryz.results199 rfl (zu (cs := y0L) Tryz.underlying275 rfl zT hH158 (zh 0 rfl) (CellsAt.one rfl)) (x := (yi 9)) rfl ?_))))))))))))))))
      have hE_ := ldD_last (s := s) (t := t) (by simp [h24, h128, h132]) (by simp [h24, h128, h132])
      rw [if_neg (fun k_ => by first | exact h149 k_.2)] at hE_
      have q159 : (ldD s t).1 = (Hd.mk 0 0 0 0 0) := by exact (congrArg Prod.fst hE_).trans rfl
      have q160 : (ldD s t).2 = 9 := by exact (congrArg Prod.snd hE_).trans rfl
      have hH161 := (hH158.front 4 rfl).first 1 rfl
      exact ⟨by rw [q159]; rw [q160], hH161⟩
    ·
     refine zi (b' := false) 56 rfl (cF h148) rfl (zi (b' := false) 56 rfl (cF h148) rfl (zi (b' := false) 56 rfl (cF h148) rfl (za (zm (u := (.bool false)) ((rfl : _ = _).trans (cF h148)) rfl (za (zc (.bool false) rfl (zf (ze (hK139 _ _ (zK rfl rfl (wp_skip (zC (ze (hK129 _ _ (yq fun K162 hK162 => (zd (za (zJ (v := (.agg y0A)) (fun _ => by kernel_rfl) (zB (zv (vs := y0L) (c' := y0A) zT rfl rfl rfl rfl y5 (by simp) (by kernel_rfl) (hH144.front 3 rfl) fun w163 hH164 => ?_))))))))))))))))))))
     refine za (zc (yi 9) rfl (zf (ze (hK162 _ _ (wp_ret (zR Tryz.results199 rfl (zu (cs := y0L) Tryz.underlying275 rfl zT hH164 (zh 0 rfl) (CellsAt.one rfl)) (x := (yi 9)) rfl ?_))))))
     have hE_ := ldD_last (s := s) (t := t) (by simp [h24, h128, h132]) (by simp [h24, h128, h132])
     rw [if_neg (fun k_ => by first | exact h148 k_.1)] at hE_
     have q165 : (ldD s t).1 = (Hd.mk 0 0 0 0 0) := by exact (congrArg Prod.fst hE_).trans rfl
     have q166 : (ldD s t).2 = 9 := by exact (congrArg Prod.snd hE_).trans rfl
     have hH167 := (hH164.front 4 rfl).first 1 rfl
     exact ⟨by rw [q165]; rw [q166], hH167⟩
  ·
   refine zi (b' := false) 28 rfl (congrArg Value.bool h128) rfl (zi (b' := false) 28 rfl (congrArg Value.bool h128) rfl (zi (b' := false) 28 rfl (congrArg Value.bool h128) rfl (zi (b' := false) 28 rfl (congrArg Value.bool h128) rfl (za (zm (u := (.bool false)) ((rfl : _ = _).trans (congrArg Value.bool h128)) rfl (za (zc (.bool false) rfl (zf (ze (hK127 _ _ (yq fun K168 hK168 => (wp_block (yq fun K169 hK169 => (zd (za (zb (.bool false) rfl (za (zb (.bool false) rfl (zi (b' := false) 36 rfl rfl rfl ?_)))))))))))))))))))
   refine zi (b' := false) 36 rfl rfl rfl (zi (b' := false) 36 rfl rfl rfl (zE 39 rfl rfl (zE 39 rfl rfl (zE 39 rfl rfl (zE 39 rfl rfl (zE 39 rfl rfl (zi (b' := false) 36 rfl rfl rfl (za (zm (u := (.bool false)) rfl rfl (za (zc (.bool false) rfl (zf (ze (hK169 _ _ (zK rfl rfl (yq fun K170 hK170 => (zd ?_)))))))))))))))))
   refine za (zb (.bool false) rfl (za (zc (.bool false) rfl (zf (ze (hK170 _ _ (zK rfl rfl (yq fun K171 hK171 => (zd (za (zb (S s) rfl (za (o_make Tryz.underlying30 ti5 rfl rfl (by omega) (by omega) (by omega) (by omega) hH22 fun v172 s173 w175 ho174 hH176 => ?_)))))))))))))
   have ho177 : Own 5 1 v172 (List.replicate ((64 : Int)).toNat (0 : UInt8)).length ((List.replicate ((64 : Int)).toNat (0 : UInt8)).map bV) s173 := by rw [List.length_replicate, List.map_replicate, ← made_rep]; exact ho174
   obtain ⟨p178, c179, rfl⟩ := (Own.sl ho174).form
   refine za (o_bstr Tryz.underlying30 Tryz.underlying5 Tryz.underlying9 rfl ho177.sl hH176 (zh 0 rfl) (za (o_seql (a := s) (b := (List.replicate ((64 : Int)).toNat (0 : UInt8))) rfl rfl (za (zb (.bool (decide (s = (List.replicate ((64 : Int)).toNat (0 : UInt8))))) rfl ?_)))))
   by_cases h180 : s = (List.replicate ((64 : Int)).toNat (0 : UInt8))
   ·
    refine zo 56 rfl (cT h180) (zb (S t) rfl (zo 56 rfl (cT h180) (zb (S s) rfl (zo 56 rfl (cT h180) (o_seql (a := t) (b := s) rfl rfl (za (zq (u := (.bool (decide (t = s)))) ((rfl : _ = _).trans (cT h180)) rfl (za (zc (.bool (decide (t = s))) rfl (zf (ze (hK171 _ _ (zt rfl (fun h181 => ?_) (fun h181 => ?_))))))))))))))
    ·
     refine yq fun K182 hK182 => (zd (za (zJ (v := (.agg y0A)) (fun _ => by kernel_rfl) (zB (zv (vs := y0L) (c' := y0A) zT rfl rfl rfl rfl y5 (by simp) (by kernel_rfl) (hH176.front 3 rfl) fun w183 hH184 => (za (zc (yi 7) rfl (zf (ze (hK182 _ _ (wp_ret (zZ (zx (zR Tryz.results199 rfl (zu (cs := y0L) Tryz.underlying275 rfl zT hH184 (zh 0 rfl) (CellsAt.one rfl)) (x := (yi 7)) rfl ?_))))))))))))))
     have hE_ := ldD_last (s := s) (t := t) (by simp [h24, h128]) (by simp [h24, h128])
     rw [if_pos ⟨h180, h181⟩] at hE_
     have q185 : (ldD s t).1 = (Hd.mk 0 0 0 0 0) := by exact (congrArg Prod.fst hE_).trans rfl
     have q186 : (ldD s t).2 = 7 := by exact (congrArg Prod.snd hE_).trans rfl
     have hH187 := (hH184.front 4 rfl).first 1 rfl
     exact ⟨by rw [q185]; rw [q186], hH187⟩
    ·
     refine wp_skip (zC (ze (hK168 _ _ (yq fun K188 hK188 => (zd (za (zJ (v := (.agg y0A)) (fun _ => by kernel_rfl) (zB (zv (vs := y0L) (c' := y0A) zT rfl rfl rfl rfl y5 (by simp) (by kernel_rfl) (hH176.front 3 rfl) fun w189 hH190 => (za (zc (yi 9) rfl (zf (ze (hK188 _ _ (wp_ret (zR Tryz.results199 rfl (zu (cs := y0L) Tryz.underlying275 rfl zT hH190 (zh 0 rfl) (CellsAt.one rfl)) (x := (yi 9)) rfl ?_))))))))))))))))
     have hE_ := ldD_last (s := s) (t := t) (by simp [h24, h128]) (by simp [h24, h128])
     rw [if_neg (fun k_ => by first | exact h181 k_.2)] at hE_
     have q191 : (ldD s t).1 = (Hd.mk 0 0 0 0 0) := by exact (congrArg Prod.fst hE_).trans rfl
     have q192 : (ldD s t).2 = 9 := by exact (congrArg Prod.snd hE_).trans rfl
     have hH193 := (hH190.front 4 rfl).first 1 rfl
     exact ⟨by rw [q191]; rw [q192], hH193⟩
   ·
    refine zi (b' := false) 56 rfl (cF h180) rfl (zi (b' := false) 56 rfl (cF h180) rfl (zi (b' := false) 56 rfl (cF h180) rfl (za (zm (u := (.bool false)) ((rfl : _ = _).trans (cF h180)) rfl (za (zc (.bool false) rfl (zf (ze (hK171 _ _ (zK rfl rfl (wp_skip (zC (ze (hK168 _ _ (yq fun K194 hK194 => (zd (za (zJ (v := (.agg y0A)) (fun _ => by kernel_rfl) (zB (zv (vs := y0L) (c' := y0A) zT rfl rfl rfl rfl y5 (by simp) (by kernel_rfl) (hH176.front 3 rfl) fun w195 hH196 => ?_))))))))))))))))))))
    refine za (zc (yi 9) rfl (zf (ze (hK194 _ _ (wp_ret (zR Tryz.results199 rfl (zu (cs := y0L) Tryz.underlying275 rfl zT hH196 (zh 0 rfl) (CellsAt.one rfl)) (x := (yi 9)) rfl ?_))))))
    have hE_ := ldD_last (s := s) (t := t) (by simp [h24, h128]) (by simp [h24, h128])
    rw [if_neg (fun k_ => by first | exact h180 k_.1)] at hE_
    have q197 : (ldD s t).1 = (Hd.mk 0 0 0 0 0) := by exact (congrArg Prod.fst hE_).trans rfl
    have q198 : (ldD s t).2 = 9 := by exact (congrArg Prod.snd hE_).trans rfl
    have hH199 := (hH196.front 4 rfl).first 1 rfl
    exact ⟨by rw [q197]; rw [q198], hH199⟩
end Go.Q
