/-
  Heaplets, what the world has of them, single operations, straight code, branches, loops and calls.
-/
import Derived.Tactics
import Derived.Orders
set_option linter.unusedVariables false
set_option linter.unusedSimpArgs false
namespace Go.Q

/-- A heaplet: some blocks with what they hold. -/
abbrev Hp := Nat → Option Obj
def Hp.sub (h : Hp) (w : World) : Prop := ∀ b o, h b = some o → w.heap[b]? = some o
def Hp.dis (h k : Hp) : Prop := ∀ b, h b = none ∨ k b = none
def Hp.one (b : Nat) (o : Obj) : Hp := fun x => if x = b then some o else none
def Hp.emp : Hp := fun _ => none
def Hp.of (w : World) : Hp := fun b => w.heap[b]?

theorem Hp.dis.symm {h k : Hp} (d : Hp.dis h k) : Hp.dis k h := fun b => (d b).symm
theorem Hp.one_at (b : Nat) (o : Obj) : Hp.one b o b = some o := by simp [Hp.one]
theorem Hp.one_some {b x : Nat} {o o' : Obj} (h : Hp.one b o x = some o') : x = b ∧ o' = o := by
  unfold Hp.one at h; split at h
  · exact ⟨by assumption, by simpa using h.symm⟩
  · simp at h

/-- The world has these heaplets, apart from each other; its streams are E's. -/
structure Has0 (E w : World) (hs : List Hp) : Prop where
  os : w.os = E.os
  tape : w.tape = E.tape
  output : w.output = E.output
  dj : hs.Pairwise Hp.dis
  sub : ∀ h ∈ hs, Hp.sub h w
/-- The same of lists of heaplets, one behind the other. -/
def Has (E w : World) (ss : List (List Hp)) : Prop := Has0 E w ss.flatten

theorem Has0.at {E w : World} {hs : List Hp} (H : Has0 E w hs) {h : Hp} (hh : h ∈ hs) {b : Nat} {o : Obj} (hb : h b = some o) : w.heap[b]? = some o := H.sub h hh b o hb

theorem Has0.lt {E w : World} {hs : List Hp} (H : Has0 E w hs) {h : Hp} (hh : h ∈ hs) {b : Nat} {o : Obj} (hb : h b = some o) : b < w.heap.size :=
  (Array.getElem?_eq_some_iff.1 (H.at hh hb)).1

theorem Has0.weak {E w : World} {hs ks : List Hp} (H : Has0 E w hs) (h : ks.Sublist hs) : Has0 E w ks :=
  ⟨H.os, H.tape, H.output, H.dj.sublist h, fun k hk => H.sub k (h.subset hk)⟩

theorem Has0.perm {E w : World} {hs ks : List Hp} (H : Has0 E w hs) (h : ks.Perm hs) : Has0 E w ks :=
  ⟨H.os, H.tape, H.output, (h.pairwise_iff (fun d => Hp.dis.symm d)).2 H.dj, fun k hk => H.sub k (h.subset hk)⟩

theorem Has0.drew {E w : World} {hs : List Hp} (H : Has0 E w hs) (n : Nat) : Has0 E { w with drawn := n } hs := ⟨H.os, H.tape, H.output, H.dj, H.sub⟩

/-- A new block. -/
theorem Has0.alloc {E w : World} {hs : List Hp} (H : Has0 E w hs) (o : Obj) : Has0 E { w with heap := w.heap.push o } (Hp.one w.heap.size o :: hs) := by
  refine ⟨H.os, H.tape, H.output, ?_, ?_⟩
  · refine List.pairwise_cons.2 ⟨fun k hk b => ?_, H.dj⟩
    cases hkb : k b with
    | none => exact .inr rfl
    | some o' =>
      have := H.lt hk hkb
      refine .inl ?_
      unfold Hp.one; rw [if_neg (by omega)]
  · intro k hk b o' hb
    show (w.heap.push o)[b]? = some o'
    rcases List.mem_cons.1 hk with rfl | hk
    · obtain ⟨rfl, rfl⟩ := Hp.one_some hb
      simp
    · rw [Array.getElem?_push, if_neg (by have := H.lt hk hb; omega)]
      exact H.at hk hb

/-- The front heaplets are written anew. -/
theorem Has0.write {E w w' : World} {as as' hs : List Hp} (H : Has0 E w (as ++ hs)) (os : w'.os = w.os) (tape : w'.tape = w.tape) (output : w'.output = w.output)
    (hdj : as'.Pairwise Hp.dis) (hdom : ∀ b, (∀ h ∈ as, h b = none) → (∀ h ∈ as', h b = none) ∨ w.heap.size ≤ b) (hnew : ∀ h ∈ as', Hp.sub h w')
    (hkeep : ∀ b, b < w.heap.size → (∀ h ∈ as, h b = none) → w'.heap[b]? = w.heap[b]?) : Has0 E w' (as' ++ hs) := by
  have hd := List.pairwise_append.1 H.dj
  have mr : ∀ k ∈ hs, k ∈ as ++ hs := fun k hk => List.mem_append_right _ hk
  have hno : ∀ k ∈ hs, ∀ b o, k b = some o → ∀ h ∈ as, h b = none := fun k hk b o hb h hh => by
    rcases hd.2.2 h hh k hk b with e | e
    · exact e
    · rw [hb] at e; cases e
  refine ⟨os.trans H.os, tape.trans H.tape, output.trans H.output, List.pairwise_append.2 ⟨hdj, hd.2.1, fun h hh k hk b => ?_⟩, ?_⟩
  · cases hkb : k b with
    | none => exact .inr rfl
    | some o =>
      rcases hdom b (hno k hk b o hkb) with e | e
      · exact .inl (e h hh)
      · have := H.lt (mr k hk) hkb; omega
  · intro k hk b o hb
    rcases List.mem_append.1 hk with hk | hk
    · exact hnew k hk b o hb
    · rw [hkeep b (H.lt (mr k hk) hb) (hno k hk b o hb)]; exact H.at (mr k hk) hb

theorem Has.start (w : World) : Has w w [[Hp.of w]] := ⟨rfl, rfl, rfl, by simp, by
  intro h hh; simp at hh; subst hh; exact fun b o h => h⟩
theorem Has.drew {E w : World} {ss : List (List Hp)} (H : Has E w ss) (n : Nat) : Has E { w with drawn := n } ss := Has0.drew H n
theorem Has.alloc {E w : World} {ss : List (List Hp)} (H : Has E w ss) (o : Obj) : Has E { w with heap := w.heap.push o } ([Hp.one w.heap.size o] :: ss) := Has0.alloc H o
theorem Has.drop {E w : World} {s : List Hp} {ss : List (List Hp)} (H : Has E w (s :: ss)) : Has E w ss := Has0.weak H (by simp)
theorem sublist_flatten {ts ss : List (List Hp)} (h : ts.Sublist ss) : ts.flatten.Sublist ss.flatten := by
  induction h with
  | slnil => exact .refl _
  | cons a _ ih => simp only [List.flatten_cons]; exact ih.trans (List.sublist_append_right _ _)
  | cons_cons a _ ih => simp only [List.flatten_cons]; exact List.Sublist.append (.refl _) ih
theorem Has.sub {E w : World} {ss ts : List (List Hp)} (H : Has E w ss) (h : ts.Sublist ss) : Has E w ts := Has0.weak H (sublist_flatten h)
/-- The k-th comes to the front. -/
def front (k : Nat) (ss : List (List Hp)) : List (List Hp) := match ss[k]? with | some s => s :: ss.eraseIdx k | none => ss
theorem perm_front (k : Nat) (ss : List (List Hp)) : (front k ss).Perm ss := by
  unfold front
  split
  · rename_i h hk
    have hlt : k < ss.length := (List.getElem?_eq_some_iff.1 hk).1
    have he : ss[k] = h := (List.getElem?_eq_some_iff.1 hk).2
    rw [List.eraseIdx_eq_take_drop_succ]
    have h2 : ss = ss.take k ++ h :: ss.drop (k + 1) := by
      rw [← he, ← List.drop_eq_getElem_cons hlt, List.take_append_drop]
    exact List.perm_middle.symm.trans (by rw [← h2])
  · exact .refl _
theorem Has.perm {E w : World} {ss ts : List (List Hp)} (H : Has E w ss) (h : ts.Perm ss) : Has E w ts := Has0.perm H h.flatten
theorem Has.front {E w : World} {ss ts : List (List Hp)} (H : Has E w ss) (k : Nat) (h : Q.front k ss = ts) : Has E w ts := h ▸ H.perm (perm_front k ss)
/-- Two lists are told as one, one as two. -/
theorem Has.glue {E w : World} {s t : List Hp} {ss : List (List Hp)} (H : Has E w (s :: t :: ss)) : Has E w ((s ++ t) :: ss) := by
  unfold Has at *; simpa using H
theorem Has.cut {E w : World} {s t : List Hp} {ss : List (List Hp)} (H : Has E w ((s ++ t) :: ss)) : Has E w (s :: t :: ss) := by
  unfold Has at *; simpa using H
/-- All behind the first k is told as one. -/
theorem Has.flat {E w : World} {ss : List (List Hp)} (H : Has E w ss) (k : Nat) : Has E w (ss.take k ++ [(ss.drop k).flatten]) := by
  unfold Has at *
  have e : (ss.take k ++ [(ss.drop k).flatten]).flatten = ss.flatten := by
    rw [List.flatten_append, List.flatten_cons, List.flatten_nil, List.append_nil, ← List.flatten_append, List.take_append_drop]
  rw [e]; exact H
theorem seg_sub {ss : List (List Hp)} (k : Nat) {s : List Hp} (h : ss[k]? = some s) : s ⊆ ss.flatten := fun _ hx => List.mem_flatten.2 ⟨s, List.mem_of_getElem? h, hx⟩
theorem Has.at {E w : World} {ss : List (List Hp)} (H : Has E w ss) {h : Hp} (hh : h ∈ ss.flatten) {b : Nat} {o : Obj} (hb : h b = some o) : w.heap[b]? = some o := Has0.at H hh hb

/-- What had to be shown of one operation. -/
def OK (P : Program) (o : Oper) (ρ : Operand → Value) (w : World) (K : Value → World → Prop) : Prop :=
  match (execOp ρ o).run P w with
  | .ok (.value v) w' => K v w'
  | .ok .skip w' => K undef w'
  | .ok (.enter f args) w' => Calls P f args w' fun e w'' => ∃ v, e = .returned v ∧ K v w''
  | _ => False

theorem OK.wp {P : Program} {o : Oper} {a : Act} {w : World} {next : Act → World → Prop} {Q : Exit → Act → World → Prop}
    (h : OK P o a.eval w fun v w' => next (a.put o.dst v) w') : o.wp P a w next Q := by
  unfold OK at h
  unfold Oper.wp
  generalize (execOp a.eval o).run P w = r at h
  cases r with
  | ok n w' =>
    cases n <;> simp only [Oper.upon] at h ⊢ <;> first | exact h | exact h.elim | skip
    exact h.mono fun e w'' ⟨v, he, hk⟩ => by subst he; exact hk
  | halt x w' => exact h.elim

theorem OK.mono {P : Program} {o : Oper} {ρ : Operand → Value} {w : World} {K K' : Value → World → Prop} (h : OK P o ρ w K) (hk : ∀ v w', K v w' → K' v w') : OK P o ρ w K' := by
  unfold OK at *
  generalize (execOp ρ o).run P w = r at *
  cases r with
  | ok n w' =>
    cases n <;> simp only at h ⊢ <;> first | exact hk _ _ h | exact h.elim | skip
    exact h.mono fun e w'' ⟨v, he, hh⟩ => ⟨v, he, hk _ _ hh⟩
  | halt x w' => exact h.elim

/-- A frame without deferred calls: N slots, told by a function. -/
def upd (r : Nat → Value) (d : Nat) (v : Value) : Nat → Value := fun t => bif Nat.beq t d then v else r t
def base (l : List Value) : Nat → Value := fun t => l.getD t undef
def fr (N : Nat) (r : Nat → Value) : Act := ⟨((List.range N).map r).toArray, []⟩
def ev (N : Nat) (r : Nat → Value) : Operand → Value
  | .tmp t => bif Nat.blt t N then r t else undef
  | .const v => v
  | .global g => .pointer (some ⟨g, 0, none⟩)
  | .func f => .func (.func f) #[] #[]
theorem act_ext {a b : Act} (h : a.tmps = b.tmps) (h' : a.defers = b.defers) : a = b := by cases a; cases b; cases h; cases h'; rfl
theorem upd_same (r : Nat → Value) (d : Nat) (v : Value) : upd r d v d = v := by simp [upd]
theorem upd_ne (r : Nat → Value) {d t : Nat} (v : Value) (h : t ≠ d) : upd r d v t = r t := by
  have : Nat.beq t d = false := by cases e : Nat.beq t d <;> simp_all
  simp [upd, this]
theorem fr_at (N : Nat) (r : Nat → Value) (t : Nat) : (fr N r).tmps[t]? = if t < N then some (r t) else none := by
  simp only [fr, List.getElem?_toArray, List.getElem?_map]
  by_cases h : t < N
  · rw [List.getElem?_range h, if_pos h]; rfl
  · rw [List.getElem?_eq_none (by simpa using h), if_neg h]; rfl
theorem fr_congr {N : Nat} {r r' : Nat → Value} (h : ∀ t, t < N → r t = r' t) : fr N r = fr N r' := by
  unfold fr
  rw [List.map_congr_left (g := r') (fun t ht => h t (List.mem_range.1 ht))]
theorem fr_put (N : Nat) (r : Nat → Value) (d : Nat) (v : Value) : (fr N r).put (some d) v = fr N (upd r d v) := by
  have hs : (fr N r).tmps.size = N := by simp [fr]
  have : ((fr N r).put (some d) v).tmps = (fr N (upd r d v)).tmps := by
    apply Array.ext_getElem?
    intro t
    rw [fr_at]
    simp only [Act.put, Array.getElem?_setIfInBounds, fr_at, hs]
    by_cases hd : d = t
    · subst hd; rw [if_pos rfl, upd_same]
    · rw [if_neg hd, upd_ne _ _ (Ne.symm hd)]
  exact act_ext this rfl
theorem fr_put_none (N : Nat) (r : Nat → Value) (v : Value) : (fr N r).put none v = fr N r := rfl
theorem fr_eval (N : Nat) (r : Nat → Value) : (fr N r).eval = ev N r := by
  funext x
  cases x with
  | tmp t =>
    simp only [Act.eval, ev, Array.getD_eq_getD_getElem?, fr_at]
    by_cases h : t < N
    · have : Nat.blt t N = true := by simpa using h
      rw [if_pos h, this]; rfl
    · have : Nat.blt t N = false := by
        cases e : Nat.blt t N with
        | false => rfl
        | true => exact absurd (by simpa using e) h
      rw [if_neg h, this]; rfl
  | _ => rfl
/-- A frame written out. -/
theorem fr_lit {N : Nat} {r : Nat → Value} {l : List Value} (h : (List.range N).map r = l) : fr N r = fr N (base l) := by
  refine fr_congr fun t ht => ?_
  unfold base
  rw [← h, List.getD_eq_getElem?_getD, List.getElem?_map, List.getElem?_range ht]; rfl

section steps
variable {P : Program} {ops : Array Oper} {Q : Exit → Act → World → Prop} {w : World} {rest : List Oper} {N : Nat} {r : Nat → Value}

theorem s_op {d : Nat} {op : Op} {T : TypeId} {pos : String} {after : Array Edge}
    (h : OK P ⟨some d, op, T, pos, after, none⟩ (ev N r) w fun v w' => wpList P ops Q rest (fr N (upd r d v)) w') :
    wpList P ops Q (⟨some d, op, T, pos, after, none⟩ :: rest) (fr N r) w := by
  unfold wpList
  rw [if_pos (by simp [Region.wanted])]
  refine .inl (OK.wp ?_)
  rw [fr_eval]
  exact h.mono fun v w' hk => by rw [fr_put]; exact hk

theorem s_eff {op : Op} {T : TypeId} {pos : String} {after : Array Edge}
    (h : OK P ⟨none, op, T, pos, after, none⟩ (ev N r) w fun _ w' => wpList P ops Q rest (fr N r) w') :
    wpList P ops Q (⟨none, op, T, pos, after, none⟩ :: rest) (fr N r) w := by
  unfold wpList
  rw [if_pos (by simp [Region.wanted])]
  refine .inl (OK.wp ?_)
  rw [fr_eval]
  exact h.mono fun v w' hk => hk

/-- the slot that operation g writes -/
def dstOf : List Oper → Nat → Option Tmp
  | [], _ => none
  | o :: _, 0 => o.dst
  | _ :: l, g + 1 => dstOf l g
theorem dstOf_spec : ∀ (ops : List Oper) (g : Nat) {t : Nat}, dstOf ops g = some t → ∃ og, ops.toArray[g]? = some og ∧ og.dst = some t
  | [], _, _, h => by cases h
  | o :: _, 0, t, h => ⟨o, by simp, h⟩
  | _ :: l, g + 1, t, h => by
    obtain ⟨og, h1, h2⟩ := dstOf_spec l g h
    exact ⟨og, by simpa using h1, h2⟩

theorem wanted_fr {d : Option Nat} {op : Op} {T : TypeId} {pos : String} {after : Array Edge} {g : Nat} {b b' : Bool} {og : Oper} {t : Nat}
    (hg : ops[g]? = some og) (ht : og.dst = some t) (hv : ev N r (.tmp t) = .bool b') : Region.wanted ⟨d, op, T, pos, after, some (g, b)⟩ (yielded ops (fr N r).tmps) = (b' == b) := by
  have hv' : (fr N r).tmps[t]? = some (.bool b') := by
    rw [fr_at]
    simp only [ev] at hv
    cases e : Nat.blt t N with
    | true => rw [e] at hv; rw [if_pos (by simpa using e)]; exact congrArg some hv
    | false => rw [e] at hv; cases hv
  simp only [Region.wanted, yielded, hg, ht, Option.bind_some, hv']
  cases b <;> cases b' <;> rfl

/-- An operation under a guard that lets it. -/
theorem s_on {ops : List Oper} {d : Nat} {op : Op} {T : TypeId} {pos : String} {after : Array Edge} {g : Nat} {b : Bool} (t : Nat)
    (hgt : dstOf ops g = some t) (hv : ev N r (.tmp t) = .bool b)
    (h : OK P ⟨some d, op, T, pos, after, some (g, b)⟩ (ev N r) w fun v w' => wpList P ops.toArray Q rest (fr N (upd r d v)) w') :
    wpList P ops.toArray Q (⟨some d, op, T, pos, after, some (g, b)⟩ :: rest) (fr N r) w := by
  obtain ⟨og, hg, ht⟩ := dstOf_spec ops g hgt
  unfold wpList
  rw [if_pos (by rw [wanted_fr hg ht hv]; simp)]
  refine .inl (OK.wp ?_)
  rw [fr_eval]
  exact h.mono fun v w' hk => by rw [fr_put]; exact hk

/-- An operation under a guard that doesn't let it. -/
theorem s_off {ops : List Oper} {d : Nat} {op : Op} {T : TypeId} {pos : String} {after : Array Edge} {g : Nat} {b b' : Bool} (t : Nat)
    (hgt : dstOf ops g = some t) (hv : ev N r (.tmp t) = .bool b') (hne : (b' == b) = false)
    (h : wpList P ops.toArray Q rest (fr N (upd r d undef)) w) :
    wpList P ops.toArray Q (⟨some d, op, T, pos, after, some (g, b)⟩ :: rest) (fr N r) w := by
  obtain ⟨og, hg, ht⟩ := dstOf_spec ops g hgt
  unfold wpList
  rw [if_neg (by rw [wanted_fr hg ht hv, hne]; simp), fr_put]
  exact h

theorem s_nil (h : Q .normal (fr N r) w) : wpList P ops Q [] (fr N r) w := h
end steps

section ops
variable {P : Program} {ρ : Operand → Value} {w : World} {K : Value → World → Prop} {dst : Option Tmp} {T : TypeId} {pos : String} {after : Array Edge} {g : Option (Nat × Bool)}

theorem o_move {x : Operand} {v : Value} (hx : ρ x = v) (h : K v w) : OK P ⟨dst, .move x, T, pos, after, g⟩ ρ w K := by subst hx; exact h
theorem o_assign {x : Operand} {v : Value} (hx : ρ x = v) (h : K v w) : OK P ⟨dst, .assign x, T, pos, after, g⟩ ρ w K := by subst hx; exact h
theorem o_pick {c x y : Operand} {b : Bool} {u v : Value} (hc : ρ c = .bool b) (hx : ρ x = u) (hy : ρ y = v) (h : K (if b then u else v) w) :
    OK P ⟨dst, .pick c x y, T, pos, after, g⟩ ρ w K := by
  subst hx hy
  show OK P _ ρ w K
  unfold OK
  simp only [execOp, hc, asBool, bind, pure, Sem.bind, Sem.run]
  exact h
theorem o_nilCheck {x : Operand} {a : Addr} (hx : ρ x = .pointer (some a)) (h : K (.pointer (some a)) w) : OK P ⟨dst, .nilCheck x, T, pos, after, g⟩ ρ w K := by
  unfold OK; simp only [execOp, hx, pure, Sem.run]; exact h
theorem o_not {t : TypeId} {x : Operand} {b : Bool} (hx : ρ x = .bool b) (h : K (.bool (!b)) w) : OK P ⟨dst, .unOp .not t x, T, pos, after, g⟩ ρ w K := by
  unfold OK; simp only [execOp, hx, Op.unary, bind, pure, Sem.bind, Sem.run]; exact h
theorem o_extract {x : Operand} {i : Nat} {vs : Array Value} {v : Value} (hx : ρ x = .tuple vs) (hv : vs[i]? = some v) (h : K v w) : OK P ⟨dst, .extract x i, T, pos, after, g⟩ ρ w K := by
  unfold OK; simp only [execOp, hx, Instr.extract, hv, bind, pure, Sem.bind, Sem.run]; exact h

theorem run_eqGuard_int {op : BinOp} {t : TypeId} {x y : Operand} {k k' : IntKind} {a b : Int} : (eqGuard op t x y (.int k a) (.int k' b)) = .pure () := by
  cases op <;> rfl

theorem o_bin {op : BinOp} {t u : TypeId} {x y : Operand} {k : IntKind} {a b : Int} {v : Value} (hx : ρ x = .int k a) (hy : ρ y = .int k b)
    (hr : (binOp op t (.int k a) (.int k b)).run P w = .ok v w) (h : K v w) : OK P ⟨dst, .binOp op t x y u, T, pos, after, g⟩ ρ w K := by
  unfold OK
  simp only [execOp, hx, hy, run_eqGuard_int]
  have e : (Sem.bind (Sem.bind (Sem.pure ()) fun _ => binOp op t (.int k a) (.int k b)) fun v => Sem.pure (Next.value v)).run P w = .ok (.value v) w := by
    show (Sem.bind (binOp op t (.int k a) (.int k b)) fun v => Sem.pure (Next.value v)).run P w = _
    rw [show (Sem.bind (binOp op t (.int k a) (.int k b)) fun v => Sem.pure (Next.value v)) = ((binOp op t (.int k a) (.int k b)) >>= fun v => pure (Next.value v)) from rfl]
    rw [Sem.run_bind, hr]; rfl
  show match (Sem.bind (Sem.bind (Sem.pure ()) fun _ => binOp op t (.int k a) (.int k b)) fun v => Sem.pure (Next.value v)).run P w with | .ok (.value v) w' => K v w' | .ok .skip w' => K undef w' | .ok (.enter f args) w' => _ | _ => False
  rw [e]; exact h
end ops
end Go.Q
