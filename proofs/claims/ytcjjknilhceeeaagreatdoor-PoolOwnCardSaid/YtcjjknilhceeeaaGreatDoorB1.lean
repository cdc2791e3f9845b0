/-
  Parts of a walk: what functions of the program compute, each told by a theorem (QA, QB, QNdup, QC, QD, QE, QF, QvBase, QG, QH, QNums, QI, QJ, QX, QFun, QOwnF, QRec, QF2, QF3, QF4, QF5, QF6, QF7, QRet, Qvk1, QStr, QK, QKV, QDev, QLock, QPage).
-/
import Derived.Tactics
import Derived.Orders
import Derived.Laws.Slices
import Derived.Laws.Append
import Derived.Laws.Rows
import Derived.Laws.CopyRow
import Derived.Laws.AppendOwn
import Derived.Laws.MakeOwn
import Derived.Laws.BytesString
import Derived.Laws.Pointers
import Derived.Laws.Concat
import Derived.RowKit3
import Derived.Great.BuildSlice
import Derived.Laws.OwnMore
import Derived.KernelRfl
import Derived.Maps.AppendAt
import Derived.Test.YtcjjknilhceeeaaGreatDoorProg
import Derived.Lib.Overlaps
import Derived.Sort.Walk0
import Derived.MapKept
set_option linter.unusedVariables false
set_option linter.unusedSimpArgs false
set_option linter.unnecessarySimpa false
namespace Go.Q

/-- A heaplet: some blocks with what they hold. -/
abbrev Hp := Nat → Option Obj
def Hp.sub (h : Hp) (w : World) : Prop := ∀ b o, h b = some o → w.heap[b]? = some o
def Hp.dis (h k : Hp) : Prop := ∀ b, h b = none ∨ k b = none
def Hp.one (b : Nat) (o : Obj) : Hp := fun x => if x = b then some o else none
def Hp.of (w : World) : Hp := fun b => w.heap[b]?

theorem Hp.dis.symm {h k : Hp} (d : Hp.dis h k) : Hp.dis k h := fun b => (d b).symm
theorem Hp.one_at (b : Nat) (o : Obj) : Hp.one b o b = some o := by simp [Hp.one]
theorem Hp.one_some {b x : Nat} {o o' : Obj} (h : Hp.one b o x = some o') : x = b ∧ o' = o := by
  unfold Hp.one at h; split at h
  · exact ⟨by assumption, by simpa using h.symm⟩
  · simp at h

/-- The world has these heaplets, apart from each other; its streams are E's. -/
structure Has0 (E w : World) (hs : List Hp) : Prop where
  os : w.os = E.os
  tape : w.tape = E.tape
  output : w.output = E.output
  dj : hs.Pairwise Hp.dis
  sub : ∀ h ∈ hs, Hp.sub h w
/-- The same of lists of heaplets, one behind the other. -/
def Has (E w : World) (ss : List (List Hp)) : Prop := Has0 E w ss.flatten

theorem Has0.at {E w : World} {hs : List Hp} (H : Has0 E w hs) {h : Hp} (hh : h ∈ hs) {b : Nat} {o : Obj} (hb : h b = some o) : w.heap[b]? = some o := H.sub h hh b o hb

theorem Has0.lt {E w : World} {hs : List Hp} (H : Has0 E w hs) {h : Hp} (hh : h ∈ hs) {b : Nat} {o : Obj} (hb : h b = some o) : b < w.heap.size :=
  (Array.getElem?_eq_some_iff.1 (H.at hh hb)).1

theorem Has0.weak {E w : World} {hs ks : List Hp} (H : Has0 E w hs) (h : ks.Sublist hs) : Has0 E w ks :=
  ⟨H.os, H.tape, H.output, H.dj.sublist h, fun k hk => H.sub k (h.subset hk)⟩

theorem Has0.perm {E w : World} {hs ks : List Hp} (H : Has0 E w hs) (h : ks.Perm hs) : Has0 E w ks :=
  ⟨H.os, H.tape, H.output, (h.pairwise_iff (fun d => Hp.dis.symm d)).2 H.dj, fun k hk => H.sub k (h.subset hk)⟩

theorem Has0.drew {E w : World} {hs : List Hp} (H : Has0 E w hs) (n : Nat) : Has0 E { w with drawn := n } hs := ⟨H.os, H.tape, H.output, H.dj, H.sub⟩

/-- A new block. -/
theorem Has0.alloc {E w : World} {hs : List Hp} (H : Has0 E w hs) (o : Obj) : Has0 E { w with heap := w.heap.push o } (Hp.one w.heap.size o :: hs) := by
  refine ⟨H.os, H.tape, H.output, ?_, ?_⟩
  · refine List.pairwise_cons.2 ⟨fun k hk b => ?_, H.dj⟩
    cases hkb : k b with
    | none => exact .inr rfl
    | some o' =>
      have := H.lt hk hkb
      refine .inl ?_
      unfold Hp.one; rw [if_neg (by omega)]
  · intro k hk b o' hb
    show (w.heap.push o)[b]? = some o'
    rcases List.mem_cons.1 hk with rfl | hk
    · obtain ⟨rfl, rfl⟩ := Hp.one_some hb
      simp
    · rw [Array.getElem?_push, if_neg (by have := H.lt hk hb; omega)]
      exact H.at hk hb

/-- The front heaplets are written anew. -/
theorem Has0.write {E w w' : World} {an an' hs : List Hp} (H : Has0 E w (an ++ hs)) (os : w'.os = w.os) (tape : w'.tape = w.tape) (output : w'.output = w.output)
    (hdj : an'.Pairwise Hp.dis) (hdom : ∀ b, (∀ h ∈ an, h b = none) → (∀ h ∈ an', h b = none) ∨ w.heap.size ≤ b) (hnew : ∀ h ∈ an', Hp.sub h w')
    (hkeep : ∀ b, b < w.heap.size → (∀ h ∈ an, h b = none) → w'.heap[b]? = w.heap[b]?) : Has0 E w' (an' ++ hs) := by
  have hd := List.pairwise_append.1 H.dj
  have mr : ∀ k ∈ hs, k ∈ an ++ hs := fun k hk => List.mem_append_right _ hk
  have hno : ∀ k ∈ hs, ∀ b o, k b = some o → ∀ h ∈ an, h b = none := fun k hk b o hb h hh => by
    rcases hd.2.2 h hh k hk b with e | e
    · exact e
    · rw [hb] at e; cases e
  refine ⟨os.trans H.os, tape.trans H.tape, output.trans H.output, List.pairwise_append.2 ⟨hdj, hd.2.1, fun h hh k hk b => ?_⟩, ?_⟩
  · cases hkb : k b with
    | none => exact .inr rfl
    | some o =>
      rcases hdom b (hno k hk b o hkb) with e | e
      · exact .inl (e h hh)
      · have := H.lt (mr k hk) hkb; omega
  · intro k hk b o hb
    rcases List.mem_append.1 hk with hk | hk
    · exact hnew k hk b o hb
    · rw [hkeep b (H.lt (mr k hk) hb) (hno k hk b o hb)]; exact H.at (mr k hk) hb

theorem Has.start (w : World) : Has w w [[Hp.of w]] := ⟨rfl, rfl, rfl, by simp, by
  intro h hh; simp at hh; subst hh; exact fun b o h => h⟩
theorem Has.drew {E w : World} {ss : List (List Hp)} (H : Has E w ss) (n : Nat) : Has E { w with drawn := n } ss := Has0.drew H n
theorem Has.alloc {E w : World} {ss : List (List Hp)} (H : Has E w ss) (o : Obj) : Has E { w with heap := w.heap.push o } ([Hp.one w.heap.size o] :: ss) := Has0.alloc H o
theorem Has.drop {E w : World} {s : List Hp} {ss : List (List Hp)} (H : Has E w (s :: ss)) : Has E w ss := Has0.weak H (by simp)
theorem sublist_flatten {ts ss : List (List Hp)} (h : ts.Sublist ss) : ts.flatten.Sublist ss.flatten := by
  induction h with
  | slnil => exact .refl _
  | cons a _ ih => simp only [List.flatten_cons]; exact ih.trans (List.sublist_append_right _ _)
  | cons_cons a _ ih => simp only [List.flatten_cons]; exact List.Sublist.append (.refl _) ih
theorem Has.sub {E w : World} {ss ts : List (List Hp)} (H : Has E w ss) (h : ts.Sublist ss) : Has E w ts := Has0.weak H (sublist_flatten h)
/-- The k-th comes to the front. -/
def front (k : Nat) (ss : List (List Hp)) : List (List Hp) := match ss[k]? with | some s => s :: ss.eraseIdx k | none => ss
theorem perm_front (k : Nat) (ss : List (List Hp)) : (front k ss).Perm ss := by
  unfold front
  split
  · rename_i h hk
    have hlt : k < ss.length := (List.getElem?_eq_some_iff.1 hk).1
    have he : ss[k] = h := (List.getElem?_eq_some_iff.1 hk).2
    rw [List.eraseIdx_eq_take_drop_succ]
    have h2 : ss = ss.take k ++ h :: ss.drop (k + 1) := by
      rw [← he, ← List.drop_eq_getElem_cons hlt, List.take_append_drop]
    exact List.perm_middle.symm.trans (by rw [← h2])
  · exact .refl _
theorem Has.perm {E w : World} {ss ts : List (List Hp)} (H : Has E w ss) (h : ts.Perm ss) : Has E w ts := Has0.perm H h.flatten
theorem Has.front {E w : World} {ss ts : List (List Hp)} (H : Has E w ss) (k : Nat) (h : Q.front k ss = ts) : Has E w ts := h ▸ H.perm (perm_front k ss)
theorem Has.cut {E w : World} {s t : List Hp} {ss : List (List Hp)} (H : Has E w ((s ++ t) :: ss)) : Has E w (s :: t :: ss) := by
  unfold Has at *; simpa using H
theorem seg_sub {ss : List (List Hp)} (k : Nat) {s : List Hp} (h : ss[k]? = some s) : s ⊆ ss.flatten := fun _ hx => List.mem_flatten.2 ⟨s, List.mem_of_getElem? h, hx⟩
theorem Has.at {E w : World} {ss : List (List Hp)} (H : Has E w ss) {h : Hp} (hh : h ∈ ss.flatten) {b : Nat} {o : Obj} (hb : h b = some o) : w.heap[b]? = some o := Has0.at H hh hb

/-- What had to be shown of one operation. -/
def OK (P : Program) (o : Oper) (ρ : Operand → Value) (w : World) (K : Value → World → Prop) : Prop :=
  match (execOp ρ o).run P w with
  | .ok (.value v) w' => K v w'
  | .ok .skip w' => K undef w'
  | .ok (.enter f args) w' => Calls P f args w' fun e w'' => ∃ v, e = .returned v ∧ K v w''
  | _ => False

theorem OK.wp {P : Program} {o : Oper} {a : Act} {w : World} {next : Act → World → Prop} {Q : Exit → Act → World → Prop}
    (h : OK P o a.eval w fun v w' => next (a.put o.dst v) w') : o.wp P a w next Q := by
  unfold OK at h
  unfold Oper.wp
  generalize (execOp a.eval o).run P w = r at h
  cases r with
  | ok n w' =>
    cases n <;> simp only [Oper.upon] at h ⊢ <;> first | exact h | exact h.elim | skip
    exact h.mono fun e w'' ⟨v, he, hk⟩ => by subst he; exact hk
  | halt x w' => exact h.elim

theorem OK.mono {P : Program} {o : Oper} {ρ : Operand → Value} {w : World} {K K' : Value → World → Prop} (h : OK P o ρ w K) (hk : ∀ v w', K v w' → K' v w') : OK P o ρ w K' := by
  unfold OK at *
  generalize (execOp ρ o).run P w = r at *
  cases r with
  | ok n w' =>
    cases n <;> simp only at h ⊢ <;> first | exact hk _ _ h | exact h.elim | skip
    exact h.mono fun e w'' ⟨v, he, hh⟩ => ⟨v, he, hk _ _ hh⟩
  | halt x w' => exact h.elim

/-- A frame without deferred calls: N slots, told by a function. -/
def upd (r : Nat → Value) (d : Nat) (v : Value) : Nat → Value := fun t => bif Nat.beq t d then v else r t
def base (l : List Value) : Nat → Value := fun t => l.getD t undef
def fr (N : Nat) (r : Nat → Value) : Act := ⟨((List.range N).map r).toArray, []⟩
def ev (N : Nat) (r : Nat → Value) : Operand → Value
  | .tmp t => bif Nat.blt t N then r t else undef
  | .const v => v
  | .global g => .pointer (some ⟨g, 0, none⟩)
  | .func f => .func (.func f) #[] #[]
theorem act_ext {a b : Act} (h : a.tmps = b.tmps) (h' : a.defers = b.defers) : a = b := by cases a; cases b; cases h; cases h'; rfl
theorem upd_same (r : Nat → Value) (d : Nat) (v : Value) : upd r d v d = v := by simp [upd]
theorem upd_ne (r : Nat → Value) {d t : Nat} (v : Value) (h : t ≠ d) : upd r d v t = r t := by
  have : Nat.beq t d = false := by cases e : Nat.beq t d <;> simp_all
  simp [upd, this]
theorem fr_at (N : Nat) (r : Nat → Value) (t : Nat) : (fr N r).tmps[t]? = if t < N then some (r t) else none := by
  simp only [fr, List.getElem?_toArray, List.getElem?_map]
  by_cases h : t < N
  · rw [List.getElem?_range h, if_pos h]; rfl
  · rw [List.getElem?_eq_none (by simpa using h), if_neg h]; rfl
theorem fr_congr {N : Nat} {r r' : Nat → Value} (h : ∀ t, t < N → r t = r' t) : fr N r = fr N r' := by
  unfold fr
  rw [List.map_congr_left (g := r') (fun t ht => h t (List.mem_range.1 ht))]
theorem fr_put (N : Nat) (r : Nat → Value) (d : Nat) (v : Value) : (fr N r).put (some d) v = fr N (upd r d v) := by
  have hs : (fr N r).tmps.size = N := by simp [fr]
  have : ((fr N r).put (some d) v).tmps = (fr N (upd r d v)).tmps := by
    apply Array.ext_getElem?
    intro t
    rw [fr_at]
    simp only [Act.put, Array.getElem?_setIfInBounds, fr_at, hs]
    by_cases hd : d = t
    · subst hd; rw [if_pos rfl, upd_same]
    · rw [if_neg hd, upd_ne _ _ (Ne.symm hd)]
  exact act_ext this rfl
theorem fr_put_none (N : Nat) (r : Nat → Value) (v : Value) : (fr N r).put none v = fr N r := rfl
theorem fr_eval (N : Nat) (r : Nat → Value) : (fr N r).eval = ev N r := by
  funext x
  cases x with
  | tmp t =>
    simp only [Act.eval, ev, Array.getD_eq_getD_getElem?, fr_at]
    by_cases h : t < N
    · have : Nat.blt t N = true := by simpa using h
      rw [if_pos h, this]; rfl
    · have : Nat.blt t N = false := by
        cases e : Nat.blt t N with
        | false => rfl
        | true => exact absurd (by simpa using e) h
      rw [if_neg h, this]; rfl
  | _ => rfl
section steps
variable {P : Program} {ops : Array Oper} {Q : Exit → Act → World → Prop} {w : World} {rest : List Oper} {N : Nat} {r : Nat → Value}

theorem s_op {d : Nat} {op : Op} {T : TypeId} {pos : String} {after : Array Edge}
    (h : OK P ⟨some d, op, T, pos, after, none⟩ (ev N r) w fun v w' => wpList P ops Q rest (fr N (upd r d v)) w') :
    wpList P ops Q (⟨some d, op, T, pos, after, none⟩ :: rest) (fr N r) w := by
  unfold wpList
  rw [if_pos (by simp [Region.wanted])]
  refine .inl (OK.wp ?_)
  rw [fr_eval]
  exact h.mono fun v w' hk => by rw [fr_put]; exact hk

theorem s_eff {op : Op} {T : TypeId} {pos : String} {after : Array Edge}
    (h : OK P ⟨none, op, T, pos, after, none⟩ (ev N r) w fun _ w' => wpList P ops Q rest (fr N r) w') :
    wpList P ops Q (⟨none, op, T, pos, after, none⟩ :: rest) (fr N r) w := by
  unfold wpList
  rw [if_pos (by simp [Region.wanted])]
  refine .inl (OK.wp ?_)
  rw [fr_eval]
  exact h.mono fun v w' hk => hk

/-- the slot that operation g writes -/
def dstOf : List Oper → Nat → Option Tmp
  | [], _ => none
  | o :: _, 0 => o.dst
  | _ :: l, g + 1 => dstOf l g
theorem dstOf_spec : ∀ (ops : List Oper) (g : Nat) {t : Nat}, dstOf ops g = some t → ∃ og, ops.toArray[g]? = some og ∧ og.dst = some t
  | [], _, _, h => by cases h
  | o :: _, 0, t, h => ⟨o, by simp, h⟩
  | _ :: l, g + 1, t, h => by
    obtain ⟨og, h1, h2⟩ := dstOf_spec l g h
    exact ⟨og, by simpa using h1, h2⟩

theorem wanted_fr {d : Option Nat} {op : Op} {T : TypeId} {pos : String} {after : Array Edge} {g : Nat} {b b' : Bool} {og : Oper} {t : Nat}
    (hg : ops[g]? = some og) (ht : og.dst = some t) (hv : ev N r (.tmp t) = .bool b') : Region.wanted ⟨d, op, T, pos, after, some (g, b)⟩ (yielded ops (fr N r).tmps) = (b' == b) := by
  have hv' : (fr N r).tmps[t]? = some (.bool b') := by
    rw [fr_at]
    simp only [ev] at hv
    cases e : Nat.blt t N with
    | true => rw [e] at hv; rw [if_pos (by simpa using e)]; exact congrArg some hv
    | false => rw [e] at hv; cases hv
  simp only [Region.wanted, yielded, hg, ht, Option.bind_some, hv']
  cases b <;> cases b' <;> rfl

/-- An operation under a guard that lets it. -/
theorem s_on {ops : List Oper} {d : Nat} {op : Op} {T : TypeId} {pos : String} {after : Array Edge} {g : Nat} {b : Bool} (t : Nat)
    (hgt : dstOf ops g = some t) (hv : ev N r (.tmp t) = .bool b)
    (h : OK P ⟨some d, op, T, pos, after, some (g, b)⟩ (ev N r) w fun v w' => wpList P ops.toArray Q rest (fr N (upd r d v)) w') :
    wpList P ops.toArray Q (⟨some d, op, T, pos, after, some (g, b)⟩ :: rest) (fr N r) w := by
  obtain ⟨og, hg, ht⟩ := dstOf_spec ops g hgt
  unfold wpList
  rw [if_pos (by rw [wanted_fr hg ht hv]; simp)]
  refine .inl (OK.wp ?_)
  rw [fr_eval]
  exact h.mono fun v w' hk => by rw [fr_put]; exact hk

/-- An operation under a guard that doesn't let it. -/
theorem s_off {ops : List Oper} {d : Nat} {op : Op} {T : TypeId} {pos : String} {after : Array Edge} {g : Nat} {b b' : Bool} (t : Nat)
    (hgt : dstOf ops g = some t) (hv : ev N r (.tmp t) = .bool b') (hne : (b' == b) = false)
    (h : wpList P ops.toArray Q rest (fr N (upd r d undef)) w) :
    wpList P ops.toArray Q (⟨some d, op, T, pos, after, some (g, b)⟩ :: rest) (fr N r) w := by
  obtain ⟨og, hg, ht⟩ := dstOf_spec ops g hgt
  unfold wpList
  rw [if_neg (by rw [wanted_fr hg ht hv, hne]; simp), fr_put]
  exact h

theorem s_nil (h : Q .normal (fr N r) w) : wpList P ops Q [] (fr N r) w := h
end steps

section ops
variable {P : Program} {ρ : Operand → Value} {w : World} {K : Value → World → Prop} {dst : Option Tmp} {T : TypeId} {pos : String} {after : Array Edge} {g : Option (Nat × Bool)}

theorem o_move {x : Operand} {v : Value} (hx : ρ x = v) (h : K v w) : OK P ⟨dst, .move x, T, pos, after, g⟩ ρ w K := by subst hx; exact h
theorem o_assign {x : Operand} {v : Value} (hx : ρ x = v) (h : K v w) : OK P ⟨dst, .assign x, T, pos, after, g⟩ ρ w K := by subst hx; exact h
theorem o_pick {c x y : Operand} {b : Bool} {u v : Value} (hc : ρ c = .bool b) (hx : ρ x = u) (hy : ρ y = v) (h : K (if b then u else v) w) :
    OK P ⟨dst, .pick c x y, T, pos, after, g⟩ ρ w K := by
  subst hx hy
  show OK P _ ρ w K
  unfold OK
  simp only [execOp, hc, asBool, bind, pure, Sem.bind, Sem.run]
  exact h
theorem o_nilCheck {x : Operand} {a : Addr} (hx : ρ x = .pointer (some a)) (h : K (.pointer (some a)) w) : OK P ⟨dst, .nilCheck x, T, pos, after, g⟩ ρ w K := by
  unfold OK; simp only [execOp, hx, pure, Sem.run]; exact h
theorem o_not {t : TypeId} {x : Operand} {b : Bool} (hx : ρ x = .bool b) (h : K (.bool (!b)) w) : OK P ⟨dst, .unOp .not t x, T, pos, after, g⟩ ρ w K := by
  unfold OK; simp only [execOp, hx, Op.unary, bind, pure, Sem.bind, Sem.run]; exact h
theorem o_extract {x : Operand} {i : Nat} {vs : Array Value} {v : Value} (hx : ρ x = .tuple vs) (hv : vs[i]? = some v) (h : K v w) : OK P ⟨dst, .extract x i, T, pos, after, g⟩ ρ w K := by
  unfold OK; simp only [execOp, hx, Instr.extract, hv, bind, pure, Sem.bind, Sem.run]; exact h

theorem run_eqGuard_int {op : BinOp} {t : TypeId} {x y : Operand} {k k' : IntKind} {a b : Int} : (eqGuard op t x y (.int k a) (.int k' b)) = .pure () := by
  cases op <;> rfl

theorem o_bin {op : BinOp} {t u : TypeId} {x y : Operand} {k : IntKind} {a b : Int} {v : Value} (hx : ρ x = .int k a) (hy : ρ y = .int k b)
    (hr : (binOp op t (.int k a) (.int k b)).run P w = .ok v w) (h : K v w) : OK P ⟨dst, .binOp op t x y u, T, pos, after, g⟩ ρ w K := by
  unfold OK
  simp only [execOp, hx, hy, run_eqGuard_int]
  have e : (Sem.bind (Sem.bind (Sem.pure ()) fun _ => binOp op t (.int k a) (.int k b)) fun v => Sem.pure (Next.value v)).run P w = .ok (.value v) w := by
    show (Sem.bind (binOp op t (.int k a) (.int k b)) fun v => Sem.pure (Next.value v)).run P w = _
    rw [show (Sem.bind (binOp op t (.int k a) (.int k b)) fun v => Sem.pure (Next.value v)) = ((binOp op t (.int k a) (.int k b)) >>= fun v => pure (Next.value v)) from rfl]
    rw [Sem.run_bind, hr]; rfl
  show match (Sem.bind (Sem.bind (Sem.pure ()) fun _ => binOp op t (.int k a) (.int k b)) fun v => Sem.pure (Next.value v)).run P w with | .ok (.value v) w' => K v w' | .ok .skip w' => K undef w' | .ok (.enter f args) w' => _ | _ => False
  rw [e]; exact h
end ops
end Go.Q
namespace Go.Q

section ops
variable {P : Program} {ρ : Operand → Value} {w : World} {K : Value → World → Prop} {dst : Option Tmp} {T : TypeId} {pos : String} {after : Array Edge} {g : Option (Nat × Bool)}

theorem OK.val {o : Oper} {v : Value} {w' : World} (hr : (execOp ρ o).run P w = .ok (.value v) w') (h : K v w') : OK P o ρ w K := by
  unfold OK; rw [hr]; exact h
theorem OK.skip {o : Oper} {w' : World} (hr : (execOp ρ o).run P w = .ok .skip w') (h : K undef w') : OK P o ρ w K := by
  unfold OK; rw [hr]; exact h
theorem run_v {s : Sem Value} {v : Value} {w' : World} (h : s.run P w = .ok v w') : (do pure (Next.value (← s)) : Sem Next).run P w = .ok (.value v) w' := by
  rw [Sem.run_bind, h]; rfl
theorem run_u {s : Sem Unit} {w' : World} (h : s.run P w = .ok () w') : (do s; pure Next.skip : Sem Next).run P w = .ok .skip w' := by
  rw [Sem.run_bind, h]; rfl

/-- whole numbers -/
theorem o_add {t u : TypeId} {x y : Operand} {k : IntKind} {a b c : Int} (hx : ρ x = .int k a) (hy : ρ y = .int k b) (hc : k.wrap (a + b) = c) (h : K (.int k c) w) :
    OK P ⟨dst, .binOp .add t x y u, T, pos, after, g⟩ ρ w K := o_bin hx hy (by simp [binOp, Op.intArith, hc]) h
theorem o_sub {t u : TypeId} {x y : Operand} {k : IntKind} {a b c : Int} (hx : ρ x = .int k a) (hy : ρ y = .int k b) (hc : k.wrap (a - b) = c) (h : K (.int k c) w) :
    OK P ⟨dst, .binOp .sub t x y u, T, pos, after, g⟩ ρ w K := o_bin hx hy (by simp [binOp, Op.intArith, hc]) h
theorem o_mul {t u : TypeId} {x y : Operand} {k : IntKind} {a b c : Int} (hx : ρ x = .int k a) (hy : ρ y = .int k b) (hc : k.wrap (a * b) = c) (h : K (.int k c) w) :
    OK P ⟨dst, .binOp .mul t x y u, T, pos, after, g⟩ ρ w K := o_bin hx hy (by simp [binOp, Op.intArith, hc]) h
theorem o_and {t u : TypeId} {x y : Operand} {k : IntKind} {a b c : Int} (hx : ρ x = .int k a) (hy : ρ y = .int k b)
    (hc : k.wrap ((BitVec.ofInt k.bits a &&& BitVec.ofInt k.bits b).toNat : Int) = c) (h : K (.int k c) w) :
    OK P ⟨dst, .binOp .and t x y u, T, pos, after, g⟩ ρ w K := o_bin hx hy (by simp only [binOp, Op.intBits]; rw [if_neg (by simp)]; simp only [Sem.run_pure]; rw [hc]) h
theorem o_or {t u : TypeId} {x y : Operand} {k : IntKind} {a b c : Int} (hx : ρ x = .int k a) (hy : ρ y = .int k b)
    (hc : k.wrap ((BitVec.ofInt k.bits a ||| BitVec.ofInt k.bits b).toNat : Int) = c) (h : K (.int k c) w) :
    OK P ⟨dst, .binOp .or t x y u, T, pos, after, g⟩ ρ w K := o_bin hx hy (by simp only [binOp, Op.intBits]; rw [if_neg (by simp)]; simp only [Sem.run_pure]; rw [hc]) h
theorem o_xor {t u : TypeId} {x y : Operand} {k : IntKind} {a b c : Int} (hx : ρ x = .int k a) (hy : ρ y = .int k b)
    (hc : k.wrap ((BitVec.ofInt k.bits a ^^^ BitVec.ofInt k.bits b).toNat : Int) = c) (h : K (.int k c) w) :
    OK P ⟨dst, .binOp .xor t x y u, T, pos, after, g⟩ ρ w K := o_bin hx hy (by simp only [binOp, Op.intBits]; rw [if_neg (by simp)]; simp only [Sem.run_pure]; rw [hc]) h

theorem run_eqGuard_shift {op : BinOp} {t : TypeId} {x y : Operand} {u v : Value} (h : op = .shl ∨ op = .shr ∨ op = .add ∨ op = .lss ∨ op = .leq ∨ op = .gtr ∨ op = .geq) : eqGuard op t x y u v = .pure () := by
  rcases h with rfl | rfl | rfl | rfl | rfl | rfl | rfl <;> rfl
theorem o_shr {t u : TypeId} {x y : Operand} {k yk : IntKind} {a b c : Int} (hx : ρ x = .int k a) (hy : ρ y = .int yk b) (h0 : 0 ≤ b)
    (hc : a.fdiv (2 ^ (min b.toNat k.bits)) = c) (h : K (.int k c) w) : OK P ⟨dst, .binOp .shr t x y u, T, pos, after, g⟩ ρ w K := by
  refine OK.val (run_v ?_) h
  simp only [hx, hy, run_eqGuard_shift (op := .shr) (by simp), binOp, Op.shift]
  rw [if_neg (by omega)]
  simp [hc]
theorem o_shl {t u : TypeId} {x y : Operand} {k yk : IntKind} {a b c : Int} (hx : ρ x = .int k a) (hy : ρ y = .int yk b) (h0 : 0 ≤ b)
    (hc : k.wrap (a * 2 ^ (min b.toNat k.bits)) = c) (h : K (.int k c) w) : OK P ⟨dst, .binOp .shl t x y u, T, pos, after, g⟩ ρ w K := by
  refine OK.val (run_v ?_) h
  simp only [hx, hy, run_eqGuard_shift (op := .shl) (by simp), binOp, Op.shift]
  rw [if_neg (by omega)]
  simp [hc]

theorem o_lss {t u : TypeId} {x y : Operand} {k : IntKind} {a b : Int} (hx : ρ x = .int k a) (hy : ρ y = .int k b) (h : K (.bool (decide (a < b))) w) :
    OK P ⟨dst, .binOp .lss t x y u, T, pos, after, g⟩ ρ w K := o_bin hx hy (by simp [binOp, Op.intCmp]) h
theorem o_leq {t u : TypeId} {x y : Operand} {k : IntKind} {a b : Int} (hx : ρ x = .int k a) (hy : ρ y = .int k b) (h : K (.bool (decide (a ≤ b))) w) :
    OK P ⟨dst, .binOp .leq t x y u, T, pos, after, g⟩ ρ w K := o_bin hx hy (by simp [binOp, Op.intCmp]) h
theorem o_gtr {t u : TypeId} {x y : Operand} {k : IntKind} {a b : Int} (hx : ρ x = .int k a) (hy : ρ y = .int k b) (h : K (.bool (decide (b < a))) w) :
    OK P ⟨dst, .binOp .gtr t x y u, T, pos, after, g⟩ ρ w K := o_bin hx hy (by simp [binOp, Op.intCmp]) h
theorem o_geq {t u : TypeId} {x y : Operand} {k : IntKind} {a b : Int} (hx : ρ x = .int k a) (hy : ρ y = .int k b) (h : K (.bool (decide (b ≤ a))) w) :
    OK P ⟨dst, .binOp .geq t x y u, T, pos, after, g⟩ ρ w K := o_bin hx hy (by simp [binOp, Op.intCmp]) h
theorem o_eql {t u : TypeId} {x y : Operand} {k : IntKind} {a b : Int} (hx : ρ x = .int k a) (hy : ρ y = .int k b) (h : K (.bool (decide (a = b))) w) :
    OK P ⟨dst, .binOp .eql t x y u, T, pos, after, g⟩ ρ w K := o_bin hx hy (by
      have e : (a == b) = decide (a = b) := rfl
      simp only [binOp, Op.intCmp]; rw [if_neg (by simp)]; simp [e]) h
theorem o_neq {t u : TypeId} {x y : Operand} {k : IntKind} {a b : Int} (hx : ρ x = .int k a) (hy : ρ y = .int k b) (h : K (.bool (decide (a ≠ b))) w) :
    OK P ⟨dst, .binOp .neq t x y u, T, pos, after, g⟩ ρ w K := o_bin hx hy (by
      have e : (a != b) = decide (a ≠ b) := by by_cases h : a = b <;> simp [h]
      simp only [binOp, Op.intCmp]; rw [if_neg (by simp)]; simp [e]) h

/-- '==' and '!=' beside whole numbers -/
theorem run_equal {t : TypeId} {x y : Value} {b : Bool} (h : (Op.equalIn (9999 + 1) t x y).run P w = .ok b w) : (Op.equal t x y).run P w = .ok b w := h
theorem o_eqx {t u : TypeId} {x y : Operand} {p q : Value} {b : Bool} (hx : ρ x = p) (hy : ρ y = q) (hg : (eqGuard .eql t x y p q).run P w = .ok () w)
    (hb : binOp .eql t p q = (do pure (.bool (← Op.equal t p q)))) (he : (Op.equalIn (9999 + 1) t p q).run P w = .ok b w) (h : K (.bool b) w) :
    OK P ⟨dst, .binOp .eql t x y u, T, pos, after, g⟩ ρ w K := by
  subst hx hy
  refine OK.val (run_v ?_) h
  rw [Sem.run_bind, hg, Result.andThen_ok, hb, Sem.run_bind, run_equal he]; rfl
theorem o_nex {t u : TypeId} {x y : Operand} {p q : Value} {b : Bool} (hx : ρ x = p) (hy : ρ y = q) (hg : (eqGuard .neq t x y p q).run P w = .ok () w)
    (hb : binOp .neq t p q = (do pure (.bool (!(← Op.equal t p q))))) (he : (Op.equalIn (9999 + 1) t p q).run P w = .ok b w) (h : K (.bool (!b)) w) :
    OK P ⟨dst, .binOp .neq t x y u, T, pos, after, g⟩ ρ w K := by
  subst hx hy
  refine OK.val (run_v ?_) h
  rw [Sem.run_bind, hg, Result.andThen_ok, hb, Sem.run_bind, run_equal he]; rfl

theorem q_pnil {t e : TypeId} {p : Option Addr} (ht : P.underlying t = some (.pointer e)) (d : Nat) : (Op.equalIn (d + 1) t (.pointer p) (.pointer none)).run P w = .ok p.isNone w := by
  cases p <;> simp [Op.equalIn, run_underlying ht]
theorem q_snil {t e : TypeId} {p : Option Addr} {n c l0 c0 : Nat} (ht : P.underlying t = some (.slice e)) (d : Nat) :
    (Op.equalIn (d + 1) t (.slice p n c) (.slice none l0 c0)).run P w = .ok p.isNone w := by
  cases p <;> simp [Op.equalIn, run_underlying ht]
theorem o_pnil {t u e : TypeId} {x y : Operand} {p : Option Addr} (ht : P.underlying t = some (.pointer e)) (hx : ρ x = .pointer p) (hy : ρ y = .pointer none)
    (h : K (.bool p.isNone) w) : OK P ⟨dst, .binOp .eql t x y u, T, pos, after, g⟩ ρ w K := o_eqx hx hy rfl rfl (q_pnil ht 9999) h
theorem o_pnnil {t u e : TypeId} {x y : Operand} {p : Option Addr} (ht : P.underlying t = some (.pointer e)) (hx : ρ x = .pointer p) (hy : ρ y = .pointer none)
    (h : K (.bool (!p.isNone)) w) : OK P ⟨dst, .binOp .neq t x y u, T, pos, after, g⟩ ρ w K := o_nex hx hy rfl rfl (q_pnil ht 9999) h
theorem o_snil {t u e : TypeId} {x y : Operand} {p : Option Addr} {n c l0 c0 : Nat} (ht : P.underlying t = some (.slice e)) (hx : ρ x = .slice p n c) (hy : ρ y = .slice none l0 c0)
    (h : K (.bool p.isNone) w) : OK P ⟨dst, .binOp .eql t x y u, T, pos, after, g⟩ ρ w K := o_eqx hx hy rfl rfl (q_snil ht 9999) h

/-- texts, as lists of bytes -/
def S (l : List UInt8) : Value := .string ⟨l.toArray⟩
theorem S_of (s : ByteArray) : Value.string s = S s.data.toList := by simp [S]
theorem bytes_toList (l : List UInt8) : (⟨l.toArray⟩ : ByteArray).toList = l := by
  have key : ∀ (n i : Nat) (r : List UInt8), l.length - i = n → i ≤ l.length → ByteArray.toList.loop (⟨l.toArray⟩ : ByteArray) i r = r.reverse ++ l.drop i := by
    intro n
    induction n with
    | zero =>
      intro i r hn hi
      unfold ByteArray.toList.loop
      have hs : (⟨l.toArray⟩ : ByteArray).size = l.length := by simp [ByteArray.size]
      rw [if_neg (by rw [hs]; omega), List.drop_eq_nil_of_le (by omega)]; simp
    | succ n ih =>
      intro i r hn hi
      unfold ByteArray.toList.loop
      have hs : (⟨l.toArray⟩ : ByteArray).size = l.length := by simp [ByteArray.size]
      have hlt : i < l.length := by omega
      rw [if_pos (by rw [hs]; omega), ih (i + 1) _ (by omega) (by omega), List.drop_eq_getElem_cons hlt]
      simp [ByteArray.get!, hlt]
  have := key l.length 0 [] (by omega) (by omega)
  simpa [ByteArray.toList] using this

theorem bytes_size (l : List UInt8) : (⟨l.toArray⟩ : ByteArray).size = l.length := by simp [ByteArray.size]
theorem bytes_append (a b : List UInt8) : (⟨a.toArray⟩ : ByteArray) ++ ⟨b.toArray⟩ = ⟨(a ++ b).toArray⟩ := by
  apply ByteArray.ext; simp
theorem o_sadd {t u : TypeId} {x y : Operand} {a b : List UInt8} (hx : ρ x = S a) (hy : ρ y = S b) (hl : a.length + b.length ≤ 9223372036854775807) (h : K (S (a ++ b)) w) :
    OK P ⟨dst, .binOp .add t x y u, T, pos, after, g⟩ ρ w K := by
  refine OK.val (run_v ?_) h
  simp only [hx, hy, S]
  have := run_string_add_sum (P := P) (w := w) ⟨a.toArray⟩ ⟨b.toArray⟩ (by rw [bytes_size, bytes_size]; exact hl)
  rw [bytes_append] at this
  exact this
theorem o_scmp {op : BinOp} {t u : TypeId} {x y : Operand} {a b : List UInt8} {r : Bool} (hx : ρ x = S a) (hy : ρ y = S b)
    (hr : (binOp op t (S a) (S b)).run P w = .ok (.bool r) w) (hg : eqGuard op t x y (S a) (S b) = .pure ()) (h : K (.bool r) w) :
    OK P ⟨dst, .binOp op t x y u, T, pos, after, g⟩ ρ w K := by
  refine OK.val (run_v ?_) h
  rw [hx, hy, hg]
  exact hr
theorem o_seql {t u : TypeId} {x y : Operand} {a b : List UInt8} (hx : ρ x = S a) (hy : ρ y = S b) (h : K (.bool (decide (a = b))) w) :
    OK P ⟨dst, .binOp .eql t x y u, T, pos, after, g⟩ ρ w K := o_scmp hx hy (by
      show (Op.stringOp .eql _ _).run P w = _
      simp only [Op.stringOp, bytes_toList]
      have e : (a == b) = decide (a = b) := by by_cases h : a = b <;> simp [h]
      rw [e]; rfl) rfl h
theorem o_sneq {t u : TypeId} {x y : Operand} {a b : List UInt8} (hx : ρ x = S a) (hy : ρ y = S b) (h : K (.bool (decide (a ≠ b))) w) :
    OK P ⟨dst, .binOp .neq t x y u, T, pos, after, g⟩ ρ w K := o_scmp hx hy (by
      show (Op.stringOp .neq _ _).run P w = _
      simp only [Op.stringOp, bytes_toList]
      have e : (!(a == b)) = decide (a ≠ b) := by by_cases h : a = b <;> simp [h]
      rw [e]; rfl) rfl h
theorem o_sleq {t u : TypeId} {x y : Operand} {a b : List UInt8} (hx : ρ x = S a) (hy : ρ y = S b) (h : K (.bool (Op.bytesLess a b || a == b)) w) :
    OK P ⟨dst, .binOp .leq t x y u, T, pos, after, g⟩ ρ w K := o_scmp hx hy (by
      show (Op.stringOp .leq _ _).run P w = _
      simp only [Op.stringOp, bytes_toList]; rfl) rfl h
/-- len -/
theorem o_call_builtin {b : Builtin} {args : Array Operand} {ts : Array TypeId} {v : Value} {w' : World}
    (hr : (builtin b ts T (args.map fun | .const _ => true | _ => false) (args.map ρ)).run P w = .ok (.value v) w') (h : K v w') :
    OK P ⟨dst, .call ⟨.builtin b, args, ts⟩, T, pos, after, g⟩ ρ w K := by
  refine OK.val ?_ h
  show (Sem.bind (Sem.bind (Sem.pure _) _) _).run P w = _
  exact hr
theorem o_slen {x : Operand} {t : TypeId} {a : List UInt8} (ht : P.underlying t = some .string) (hx : ρ x = S a) (h : K (.int .i64 a.length) w) :
    OK P ⟨dst, .call ⟨.builtin .len, #[x], #[t]⟩, T, pos, after, g⟩ ρ w K := by
  refine o_call_builtin ?_ h
  simp [hx, S, builtin, Builtin.len_, run_underlying ht, goInt, bytes_size]
theorem o_len {x : Operand} {t e : TypeId} {p : Option Addr} {n c : Nat} (ht : P.underlying t = some (.slice e)) (hx : ρ x = .slice p n c) (h : K (.int .i64 n) w) :
    OK P ⟨dst, .call ⟨.builtin .len, #[x], #[t]⟩, T, pos, after, g⟩ ρ w K := by
  refine o_call_builtin ?_ h
  simp [hx, builtin, Builtin.len_, run_underlying ht, goInt]
/-- a number of another kind -/
theorem o_conv {s t : TypeId} {x : Operand} {k k' : IntKind} {a c : Int} {ds : TypeDesc} (hs : P.underlying s = some ds) (ht : P.underlying t = some (.int k)) (hx : ρ x = .int k' a)
    (hc : k.wrap a = c) (h : K (.int k c) w) : OK P ⟨dst, .convert s t x, T, pos, after, g⟩ ρ w K := by
  refine OK.val (run_v ?_) h
  rw [hx]
  rw [← hc]
  cases ds <;> simp [convert, run_underlying hs, run_underlying ht, Conv.intToInt]
/-- s[i] of a text -/
theorem o_sidx {t : TypeId} {x y : Operand} {a : List UInt8} {k : IntKind} {i : Int} {b : UInt8} (ht : P.underlying t = some .string) (hx : ρ x = S a) (hy : ρ y = .int k i)
    (h0 : 0 ≤ i) (hb : a[i.toNat]? = some b) (h : K (.int .u8 b.toNat) w) : OK P ⟨dst, .index t x y, T, pos, after, g⟩ ρ w K := by
  refine OK.val (run_v ?_) h
  have e : (⟨a.toArray⟩ : ByteArray)[i.toNat]? = some b := by
    obtain ⟨hlt, hv⟩ := List.getElem?_eq_some_iff.1 hb
    have hs : i.toNat < (⟨a.toArray⟩ : ByteArray).size := by rw [bytes_size]; exact hlt
    rw [getElem?_pos (⟨a.toArray⟩ : ByteArray) i.toNat hs, ByteArray.getElem_eq_getElem_data]
    simpa using hv
  simp [hx, hy, S, Instr.index, asIntOf, run_underlying ht, h0, e]
end ops
end Go.Q
namespace Go.Q
theorem nodup_len : ∀ (a b : List Int), a.Nodup → (∀ x ∈ a, x ∈ b) → a.length ≤ b.length
  | [], _, _, _ => Nat.zero_le _
  | x :: a, b, h, hs => by
    have h2 := List.nodup_cons.1 h
    have hx := hs x (List.mem_cons_self ..)
    have := nodup_len a (b.erase x) h2.2 fun y hy => (List.mem_erase_of_ne (fun e => h2.1 (by rw [← e]; exact hy))).2 (hs y (List.mem_cons_of_mem _ hy))
    rw [List.length_erase_of_mem hx] at this
    have : 0 < b.length := List.length_pos_of_mem hx
    rw [List.length_cons]; omega
end Go.Q
namespace Go.Q

/-- From a place on these cells stand. -/
def CellsAt (L : List Hp) (b off : Nat) (cs : List Value) : Prop := ∃ h ∈ L, ∃ c T f, h b = some (.cells c T f) ∧ ∀ j v, cs[j]? = some v → c[off + j]? = some v

theorem CellsAt.sub {L : List Hp} {b off : Nat} {cs ds : List Value} {k : Nat} (H : CellsAt L b off cs) (hd : ∀ j v, ds[j]? = some v → cs[k + j]? = some v) : CellsAt L b (off + k) ds := by
  obtain ⟨h, hh, c, T, f, hb, hc⟩ := H
  exact ⟨h, hh, c, T, f, hb, fun j v hv => by rw [Nat.add_assoc]; exact hc _ _ (hd j v hv)⟩
theorem CellsAt.mono {L M : List Hp} {b off : Nat} {cs : List Value} (H : CellsAt L b off cs) (hs : L ⊆ M) : CellsAt M b off cs := by
  obtain ⟨h, hh, r⟩ := H; exact ⟨h, hs hh, r⟩
theorem CellsAt.one {b off : Nat} {c : Array Value} {T : TypeId} {f : Nat × Nat} {cs : List Value} (h : (c.toList.drop off).take cs.length = cs) : CellsAt [Hp.one b (.cells c T f)] b off cs :=
  ⟨_, List.mem_singleton.2 rfl, c, T, f, Hp.one_at _ _, fun j v hv => by
    have hj : j < cs.length := (List.getElem?_eq_some_iff.1 hv).1
    rw [← h, List.getElem?_take, if_pos hj, List.getElem?_drop] at hv
    simpa using hv⟩
theorem Has.cell {E w : World} {ss : List (List Hp)} (H : Has E w ss) {L : List Hp} (hL : L ⊆ ss.flatten) {b off j : Nat} {cs : List Value} {v : Value} (hc : CellsAt L b off cs) (hj : cs[j]? = some v) :
    w.cell? ⟨b, off + j, none⟩ = some v := by
  obtain ⟨h, hh, c, T, f, hb, hcc⟩ := hc
  rw [cell_of_row w b (off + j) c T f (H.at (hL hh) hb)]
  exact hcc j v hj

theorem add_lit (b off j : Nat) : (⟨b, off, none⟩ : Addr).add j = ⟨b, off + j, none⟩ := by unfold Addr.add; split <;> simp_all

/-- A type's zero value, cells and bytes. -/
def TI (P : Program) (t : TypeId) (z : Value) (sz by_ : Nat) : Prop := ∃ i, P.info? t = some i ∧ i.zero = some z ∧ i.size = sz ∧ i.bytes = by_
theorem TI.mk {P : Program} {t : TypeId} {z : Value} {sz by_ : Nat} (h : (P.info? t).map (fun i => (i.zero, i.size, i.bytes)) = some (some z, sz, by_)) : TI P t z sz by_ := by
  unfold TI
  cases hi : P.info? t with
  | none => simp [hi] at h
  | some i => simp [hi] at h; exact ⟨i, rfl, h⟩
theorem TI.size {P : Program} {t : TypeId} {z : Value} {sz by_ : Nat} (h : TI P t z sz by_) (w : World) : (sizeOf t).run P w = .ok sz w := by
  obtain ⟨i, hi, _, rfl, _⟩ := h
  simp [sizeOf, typeInfo, hi]

def aggB : TypeDesc → Bool
  | .struct _ | .array _ _ => true
  | _ => false
theorem run_isAgg {P : Program} {t : TypeId} {d : TypeDesc} (h : P.underlying t = some d) (w : World) : (isAgg t).run P w = .ok (aggB d) w := by
  unfold isAgg
  rw [Sem.run_bind, run_underlying h]
  cases d <;> rfl

section ops
variable {P : Program} {ρ : Operand → Value} {E w : World} {ss : List (List Hp)} {K : Value → World → Prop} {dst : Option Tmp} {T : TypeId} {pos : String} {after : Array Edge} {g : Option (Nat × Bool)}

theorem o_load1 {t : TypeId} {x : Operand} {d : TypeDesc} {L : List Hp} {b off : Nat} {v : Value} (ht : P.underlying t = some d) (hd : aggB d = false)
    (hx : ρ x = .pointer (some ⟨b, off, none⟩)) (H : Has E w ss) (hL : L ⊆ ss.flatten) (hc : CellsAt L b off [v]) (hK : K v w) :
    OK P ⟨dst, .load t x, T, pos, after, g⟩ ρ w K := by
  refine OK.val (run_v ?_) hK
  have e := H.cell (j := 0) (v := v) hL hc rfl
  simp only [hx, Instr.loadAt, Instr.sureAddr, Sem.run_bind, Sem.run_pure, Result.andThen_ok, loadVar, run_isAgg ht, hd]
  simp only [Bool.false_eq_true, if_false, run_load]
  rw [show (⟨b, off, none⟩ : Addr) = ⟨b, off + 0, none⟩ from rfl, e]

theorem o_loadN {t : TypeId} {x : Operand} {d : TypeDesc} {L : List Hp} {b off : Nat} {cs : List Value} {z : Value} {by_ : Nat} (ht : P.underlying t = some d) (hd : aggB d = true)
    (hi : TI P t z cs.length by_) (hx : ρ x = .pointer (some ⟨b, off, none⟩)) (H : Has E w ss) (hL : L ⊆ ss.flatten) (hc : CellsAt L b off cs) (hK : K (.agg cs.toArray) w) :
    OK P ⟨dst, .load t x, T, pos, after, g⟩ ρ w K := by
  refine OK.val (run_v ?_) hK
  simp only [hx, Instr.loadAt, Instr.sureAddr, Sem.run_bind, Sem.run_pure, Result.andThen_ok, loadVar, run_isAgg ht, hd, if_true, hi.size]
  rw [run_loadCells_list (P := P) (w := w) ⟨b, off, none⟩ cs (fun j v hv => by rw [add_lit]; exact H.cell hL hc hv)]
  rfl

/-- the address of a field -/
theorem o_fieldAddr {s : TypeId} {x : Operand} {f b off k : Nat} (hr : ∀ w, (Instr.fieldAt s (.pointer (some ⟨b, off, none⟩)) f).run P w = .ok (.pointer (some ⟨b, k, none⟩)) w)
    (hx : ρ x = .pointer (some ⟨b, off, none⟩)) (hK : K (.pointer (some ⟨b, k, none⟩)) w) : OK P ⟨dst, .fieldAddr s x f, T, pos, after, g⟩ ρ w K :=
  OK.val (run_v (by rw [hx]; exact hr w)) hK

/-- any quiet operation that is reckoned by sight -/
theorem o_sight {op : Op} {v : Value} (hr : ∀ w, (execOp ρ ⟨dst, op, T, pos, after, g⟩).run P w = .ok (.value v) w) (hK : K v w) : OK P ⟨dst, op, T, pos, after, g⟩ ρ w K :=
  OK.val (hr w) hK

/-- a new block of a value -/
theorem o_box {e : TypeId} {x : Operand} {v : Value} {cs : Array Value} (hx : ρ x = v) (hcs : v.cells = cs) (H : Has E w ss)
    (hK : ∀ b w', Has E w' ([Hp.one b (.cells cs e (0, 0))] :: ss) → K (.pointer (some ⟨b, 0, none⟩)) w') : OK P ⟨dst, .box e x, T, pos, after, g⟩ ρ w K := by
  subst hcs hx
  exact OK.val (w' := { w with heap := w.heap.push (.cells (ρ x).cells e) }) (run_v (by simp [Instr.box, newVar, newRow])) (hK _ _ (H.alloc _))
theorem o_alloc {e : TypeId} {z : Value} {sz by_ : Nat} {cs : Array Value} (hi : TI P e z sz by_) (hcs : z.cells = cs) (H : Has E w ss)
    (hK : ∀ b w', Has E w' ([Hp.one b (.cells cs e (0, 0))] :: ss) → K (.pointer (some ⟨b, 0, none⟩)) w') : OK P ⟨dst, .alloc e, T, pos, after, g⟩ ρ w K := by
  subst hcs
  obtain ⟨i, hi, hz, _⟩ := hi
  exact OK.val (w' := { w with heap := w.heap.push (.cells z.cells e) }) (run_v (by simp [Instr.alloc, zeroValue, typeInfo, hi, hz, newVar, newRow])) (hK _ _ (H.alloc _))
theorem o_makeMap {t : TypeId} (H : Has E w ss) (hK : ∀ b w', Has E w' ([Hp.one b (.map #[] 0)] :: ss) → K (.map (some b)) w') : OK P ⟨dst, .makeMap t none, T, pos, after, g⟩ ρ w K :=
  OK.val (w' := { w with heap := w.heap.push (.map #[] 0) }) (run_v (by simp [Instr.makeMap])) (hK _ _ (H.alloc _))
theorem o_buildSlice {t e : TypeId} {len : Nat} {parts : Array (Nat × Operand)} {ps : Array (Nat × Value)} {cells : Array Value} {z : Value} {sz by_ : Nat}
    (ht : P.underlying t = some (.slice e)) (hi : TI P e z sz by_) (hsmall : ¬ len * sz > 2 ^ 24) (hp : parts.map (fun (i, x) => (i, ρ x)) = ps)
    (hf : Instr.fill (fun i => some (i * sz, sz)) ((Array.range (len * sz)).map (z.cells[· % z.cells.size]!)) ps.toList = some cells) (H : Has E w ss)
    (hK : ∀ b w', Has E w' ([Hp.one b (.cells cells e (0, 0))] :: ss) → K (.slice (some ⟨b, 0, none⟩) len len) w') : OK P ⟨dst, .buildSlice t len parts, T, pos, after, g⟩ ρ w K := by
  obtain ⟨i, hi, hz, hsz, _⟩ := hi
  subst hsz
  refine OK.val (w' := { w with heap := w.heap.push (.cells cells e) }) (run_v ?_) (hK _ _ (H.alloc _))
  rw [show (parts.map fun (i, x) => (i, ρ x)) = ps from hp]
  by_cases h0 : len * i.size = 0
  · rw [h0] at hf
    simp only [Instr.buildSlice, Sem.run_bind, run_underlying ht, sizeOf, typeInfo, run_program, hi, Result.andThen_ok, Sem.run_pure, h0]
    simp [newRow, Array.range_zero'] at *
    simp [hf]
  · exact run_buildSlice w t e len ps cells i z ht hi hz hsmall h0 hf

/-- a call of a function of the program, or of a function value -/
theorem o_call {c : Operand} {f : FuncId} {first captured : Array Value} {args : Array Operand} {ts : Array TypeId} {vs : Array Value} {fn : Func} {R : Ending → World → Prop} (hf : P.funcs[f]? = some fn)
    (hb : fn.body.isNone = false) (hn : (fn.name == "runtime.NumGoroutine") = false) (hv : ρ c = .func (.func f) first captured) (hargs : first ++ args.map ρ ++ captured = vs) (hc : Calls P f vs w R)
    (hK : ∀ e w', R e w' → ∃ v, e = .returned v ∧ K v w') : OK P ⟨dst, .call ⟨.value c, args, ts⟩, T, pos, after, g⟩ ρ w K := by
  have hr : (execOp ρ ⟨dst, .call ⟨.value c, args, ts⟩, T, pos, after, g⟩).run P w = .ok (.enter f vs) w := by
    have hn' : fn.name ≠ "runtime.NumGoroutine" := by simpa using hn
    have hb' : fn.body ≠ none := by intro e; simp [e] at hb
    simp [execOp, resolve, hv, Deferred.ofValue, invoke, callFunc, hf, hn', hb', ← hargs]
  unfold OK
  rw [hr]
  exact hc.mono hK

/-- A row of n elements of sz cells each. -/
def Sl (L : List Hp) (sz : Nat) (v : Value) (n : Nat) (cs : List Value) : Prop :=
  ∃ p cap, v = .slice p n cap ∧ n ≤ cap ∧ cap ≤ 9223372036854775807 ∧ cs.length = n * sz ∧ (0 < n → ∃ b off, p = some ⟨b, off, none⟩ ∧ CellsAt L b off cs)

theorem Sl.mono {L M : List Hp} {sz : Nat} {v : Value} {n : Nat} {cs : List Value} (H : Sl L sz v n cs) (hs : L ⊆ M) : Sl M sz v n cs := by
  obtain ⟨p, cap, e, a, b, c, d⟩ := H
  exact ⟨p, cap, e, a, b, c, fun h => let ⟨b, off, e, hc⟩ := d h; ⟨b, off, e, hc.mono hs⟩⟩
theorem Sl.form {L : List Hp} {sz : Nat} {v : Value} {n : Nat} {cs : List Value} (H : Sl L sz v n cs) : ∃ p cap, v = .slice p n cap := let ⟨p, cap, e, _⟩ := H; ⟨p, cap, e⟩

theorem o_lenS {x : Operand} {t e : TypeId} {L : List Hp} {sz n : Nat} {v : Value} {cs : List Value} (ht : P.underlying t = some (.slice e)) (hx : ρ x = v) (hs : Sl L sz v n cs) (hK : K (.int .i64 n) w) :
    OK P ⟨dst, .call ⟨.builtin .len, #[x], #[t]⟩, T, pos, after, g⟩ ρ w K := by
  obtain ⟨p, cap, rfl, _⟩ := hs
  exact o_len ht hx hK

theorem o_indexAddr {x y : Operand} {t e : TypeId} {L : List Hp} {sz n by_ : Nat} {v z : Value} {cs : List Value} {k : IntKind} {i : Int} (ht : P.underlying t = some (.slice e)) (hi : TI P e z sz by_)
    (hx : ρ x = v) (hs : Sl L sz v n cs) (hy : ρ y = .int k i) (h0 : 0 ≤ i) (h1 : i < n) (hK : ∀ b off, CellsAt L b off ((cs.drop (i.toNat * sz)).take sz) → K (.pointer (some ⟨b, off, none⟩)) w) :
    OK P ⟨dst, .indexAddr t x y, T, pos, after, g⟩ ρ w K := by
  obtain ⟨p, cap, rfl, hnc, hcm, hl, hp⟩ := hs
  obtain ⟨b, off, rfl, hc⟩ := hp (by omega)
  refine OK.val (run_v (v := .pointer (some ⟨b, off + i.toNat * sz, none⟩)) ?_) (hK _ _ (hc.sub ?_))
  · rw [hx, hy]
    simp [Instr.indexAt, asIntOf, run_underlying ht, h0, h1, hi.size, add_lit]
  · intro j v hv
    rw [List.getElem?_take] at hv
    split at hv
    · rw [List.getElem?_drop] at hv; exact hv
    · cases hv

theorem drop_take_map {α : Type} (f : α → Value) (l : List α) (i : Nat) (hi : i < l.length) : ((l.map f).drop (i * 1)).take 1 = [f l[i]] := by
  rw [Nat.mul_one, ← List.map_drop, List.drop_eq_getElem_cons hi]; rfl

/-- a store of one cell into the front block -/
theorem o_store1 {x y : Operand} {t : TypeId} {b off : Nat} {c c' : Array Value} {U : TypeId} {v z : Value} {by_ : Nat} (hi : TI P t z 1 by_) (hx : ρ x = .pointer (some ⟨b, off, none⟩)) (hy : ρ y = v)
    (hv : v.oneCell' = true) (hlt : off < c.size) (hc : c.setIfInBounds off v = c') (H : Has E w ([Hp.one b (.cells c U (0, 0))] :: ss))
    (hK : ∀ w', Has E w' ([Hp.one b (.cells c' U (0, 0))] :: ss) → K undef w') : OK P ⟨dst, .store t x y, T, pos, after, g⟩ ρ w K := by
  have hwb : w.heap[b]? = some (.cells c U (0, 0)) := H.at (h := Hp.one b (.cells c U (0, 0))) (by simp) (Hp.one_at _ _)
  have hcell : w.cell? ⟨b, off, none⟩ = some c[off] := by rw [cell_of_row w b off c U (0, 0) hwb]; simp [hlt]
  have hfz : w.frozen? ⟨b, off, none⟩ = false := by simp [World.frozen?, hwb]
  have hcl : v.cells = #[v] := by cases v <;> first | rfl | (simp [Value.oneCell'] at hv)
  refine OK.skip (w' := w.setCell ⟨b, off, none⟩ v) (run_u ?_) (hK _ ?_)
  · rw [hx, hy]
    simp only [Instr.storeAt, Instr.sureAddr, Sem.run_bind, Sem.run_pure, Result.andThen_ok, storeVar, hi.size, hcl]
    simp [storeCells, add_lit, run_store P w ⟨b, off, none⟩ v .plain hv, hcell, hfz]
  · refine Has0.write (an := [Hp.one b (.cells c U (0, 0))]) (an' := [Hp.one b (.cells c' U (0, 0))]) (hs := ss.flatten) H rfl rfl rfl (by simp) ?_ ?_ ?_
    · intro k hk
      have hk := hk _ (List.mem_singleton.2 rfl)
      refine .inl fun h hh => ?_
      rw [List.mem_singleton.1 hh]
      unfold Hp.one at hk ⊢
      split at hk
      · cases hk
      · rw [if_neg (by assumption)]
    · intro h hh k o hk
      rw [List.mem_singleton.1 hh] at hk
      obtain ⟨rfl, rfl⟩ := Hp.one_some hk
      simp only [World.setCell, Array.getElem?_modify]
      simp [hwb, hc]
    · intro k _ hk
      have hk := hk _ (List.mem_singleton.2 rfl)
      have : k ≠ b := by rintro rfl; rw [Hp.one_at] at hk; cases hk
      simp only [World.setCell, Array.getElem?_modify]
      rw [if_neg (by omega)]
end ops
end Go.Q
namespace Go.Q

/-- A row that lies alone in its block, from the block's beginning on. -/
def Own (e : TypeId) (sz : Nat) (v : Value) (n : Nat) (cs : List Value) (hs : List Hp) : Prop :=
  cs.length = n * sz ∧ ((v = .slice none 0 0 ∧ n = 0 ∧ hs = []) ∨
    ∃ b cap cur, v = .slice (some ⟨b, 0, none⟩) n cap ∧ hs = [Hp.one b (.cells cur e (0, 0))] ∧ n ≤ cap ∧ cap ≤ maxLen ∧ cur.size = cap * sz ∧ cur.toList.take (n * sz) = cs)

theorem Own.nil (e : TypeId) (sz : Nat) : Own e sz (.slice none 0 0) 0 [] [] := ⟨by simp, .inl ⟨rfl, rfl, rfl⟩⟩
theorem Own.lit {e : TypeId} {sz n b : Nat} {cur : Array Value} (h : cur.size = n * sz) (hm : n ≤ maxLen) :
    Own e sz (.slice (some ⟨b, 0, none⟩) n n) n cur.toList [Hp.one b (.cells cur e (0, 0))] :=
  ⟨by simpa using h, .inr ⟨b, n, cur, rfl, rfl, Nat.le_refl _, hm, h, by rw [List.take_of_length_le (by simp [h])]⟩⟩
theorem Own.sl {e : TypeId} {sz n : Nat} {v : Value} {cs : List Value} {hs : List Hp} (H : Own e sz v n cs hs) : Sl hs sz v n cs := by
  obtain ⟨hl, ⟨rfl, rfl, rfl⟩ | ⟨b, cap, cur, rfl, rfl, hnc, hcm, hcs, htake⟩⟩ := H
  · exact ⟨none, 0, rfl, Nat.le_refl _, by omega, hl, fun h => by omega⟩
  · refine ⟨_, cap, rfl, hnc, by simpa [maxLen] using hcm, hl, fun _ => ⟨b, 0, rfl, ?_⟩⟩
    refine CellsAt.one ?_
    rw [List.drop_zero, hl]; exact htake
theorem Own.row {e : TypeId} {sz n : Nat} {v : Value} {cs : List Value} {hs : List Hp} (H : Own e sz v n cs hs) {E w : World} {ss : List (List Hp)} (hH : Has E w (hs :: ss)) : w.ownsRow 0 e sz v n cs := by
  obtain ⟨hl, ⟨rfl, rfl, rfl⟩ | ⟨b, cap, cur, rfl, rfl, hnc, hcm, hcs, htake⟩⟩ := H
  · exact ⟨hl, .inl ⟨rfl, rfl⟩⟩
  · exact ⟨hl, .inr ⟨b, cap, cur, rfl, Nat.zero_le _, hH.at (by simp) (Hp.one_at _ _), hnc, hcm, hcs, htake⟩⟩

/-- A world that has grown by a row's own block. -/
theorem Own.turn {e : TypeId} {sz n n' : Nat} {v v' : Value} {cs cs' : List Value} {hs : List Hp} (H : Own e sz v n cs hs) {E w w' : World} {ss : List (List Hp)} (hH : Has E w (hs :: ss))
    (ho : w'.ownsRow 0 e sz v' n' cs') (hg : w.grownBy w' v.ownBlock) (hl : v'.ownBlock = v.ownBlock ∨ v'.ownBlock = some w.heap.size) :
    ∃ hs', Own e sz v' n' cs' hs' ∧ Has E w' (hs' :: ss) := by
  have hdom : ∀ b, (∀ h ∈ hs, h b = none) → v.ownBlock ≠ some b := by
    intro b hb hv
    obtain ⟨_, ⟨rfl, _⟩ | ⟨b', cap, cur, rfl, rfl, _⟩⟩ := H
    · simp [Value.ownBlock] at hv
    · simp [Value.ownBlock] at hv
      subst hv
      have := hb _ (List.mem_singleton.2 rfl)
      rw [Hp.one_at] at this; cases this
  have keep : ∀ b, b < w.heap.size → (∀ h ∈ hs, h b = none) → w'.heap[b]? = w.heap[b]? := fun b hb hn => hg.block b hb (fun e => hdom b hn e.symm)
  obtain ⟨hl', ⟨rfl, rfl⟩ | ⟨b, cap, cur, rfl, _, hb, hnc, hcm, hcs, htake⟩⟩ := ho
  · refine ⟨[], ⟨hl', .inl ⟨rfl, rfl, rfl⟩⟩, ?_⟩
    refine Has0.write (an := hs) (an' := []) (hs := ss.flatten) hH hg.os hg.tape hg.output (by simp) (fun b _ => .inl (by simp)) (by simp) keep
  · refine ⟨[Hp.one b (.cells cur e (0, 0))], ⟨hl', .inr ⟨b, cap, cur, rfl, rfl, hnc, hcm, hcs, htake⟩⟩, ?_⟩
    refine Has0.write (an := hs) (an' := [Hp.one b (.cells cur e (0, 0))]) (hs := ss.flatten) hH hg.os hg.tape hg.output (by simp) (fun k hk => ?_) ?_ keep
    · by_cases hkb : k = b
      · subst hkb
        rcases hl with hl | hl
        · exact absurd hl.symm (hdom k hk)
        · simp [Value.ownBlock] at hl; exact .inr (by omega)
      · refine .inl fun h hh => ?_
        rw [List.mem_singleton.1 hh]; unfold Hp.one; rw [if_neg hkb]
    · intro h hh k o hk
      rw [List.mem_singleton.1 hh] at hk
      obtain ⟨rfl, rfl⟩ := Hp.one_some hk
      exact hb

section ops
variable {P : Program} {ρ : Operand → Value} {E w : World} {ss : List (List Hp)} {K : Value → World → Prop} {dst : Option Tmp} {T : TypeId} {pos : String} {after : Array Edge} {g : Option (Nat × Bool)}

theorem o_append {x y : Operand} {t e : TypeId} {z v u : Value} {sz by_ n m : Nat} {cs ds : List Value} {hs L : List Hp} (ht : P.underlying t = some (.slice e)) (hi : TI P e z sz by_)
    (hz : z.cells.size = sz) (hsz : 0 < sz) (hx : ρ x = v) (ho : Own e sz v n cs hs) (hy : ρ y = u) (hu : Sl L sz u m ds) (H : Has E w (hs :: ss)) (hL : L ⊆ ss.flatten)
    (h1 : ∀ u ∈ ds, u.oneCell' = true) (hb : (n + m) * by_ ≤ 140737488355328) (h63 : n + m ≤ 9223372036854775807)
    (hK : ∀ v' hs' w', Own e sz v' (n + m) (cs ++ ds) hs' → Has E w' (hs' :: ss) → K v' w') :
    OK P ⟨dst, .call ⟨.builtin .append, #[x, y], #[t, t]⟩, T, pos, after, g⟩ ρ w K := by
  obtain ⟨i, hi, hiz, hisz, hiby⟩ := hi
  obtain ⟨p, cap, rfl, hnc, hcm, hl, hp⟩ := hu
  have hrow := ho.row H
  by_cases hm : m = 0
  · subst hm
    have hds : ds = [] := by simpa using hl
    subst hds
    refine o_call_builtin (v := v) (w' := w) ?_ (hK _ hs w (by simpa using ho) H)
    obtain ⟨hlc, ⟨rfl, rfl, rfl⟩ | ⟨b, cap', cur, rfl, rfl, hnc', _⟩⟩ := ho
    · cases p <;> simp [hx, hy, builtin, Builtin.append_, run_underlying ht, sizeOf, typeInfo, hi, Builtin.lenOf, Builtin.firstCells, loadCells, loadCellsFrom]
    · cases p <;> simp [hx, hy, builtin, Builtin.append_, run_underlying ht, sizeOf, typeInfo, hi, Builtin.lenOf, Builtin.firstCells, loadCells, loadCellsFrom, hnc', storeCells]
  · obtain ⟨b, off, rfl, hc⟩ := hp (by omega)
    obtain ⟨v', w', hr, ho', hg, _, hloc⟩ := run_append_own_at (P := P) w 0 t T e i z sz by_ ht hi hiz hisz hiby hz hsz v n cs hrow ⟨b, off, none⟩ m cap ds hl
      (fun j u hj => by rw [add_lit]; exact H.cell (fun _ hx => List.mem_append_right _ (hL hx)) hc hj) h1 (by simpa [maxLen] using h63) hb (Nat.zero_le _)
    obtain ⟨hs', hown, hH⟩ := ho.turn H ho' hg hloc
    refine o_call_builtin (v := v') (w' := w') ?_ (hK v' hs' w' hown hH)
    simp only [hx, hy, builtin, List.map_toArray, List.map_cons, List.map_nil, Sem.run_bind, hr, Result.andThen_ok, Sem.run_pure]

/-- make -/
theorem o_make {x y : Operand} {t e : TypeId} {z : Value} {sz by_ : Nat} {kl kc : IntKind} {l c : Int} (ht : P.underlying t = some (.slice e)) (hi : TI P e z sz by_)
    (hx : ρ x = .int kl l) (hy : ρ y = .int kc c) (h0 : 0 ≤ l) (hlc : l ≤ c) (hb : (by_ : Int) * c ≤ 281474976710656) (h63 : c ≤ 9223372036854775807) (H : Has E w ss)
    (hK : ∀ v' hs' w', Own e sz v' l.toNat ((madeCells z.cells (c.toNat * sz)).toList.take (l.toNat * sz)) hs' → Has E w' (hs' :: ss) → K v' w') :
    OK P ⟨dst, .makeSlice t x y, T, pos, after, g⟩ ρ w K := by
  obtain ⟨i, hi, hiz, hisz, hiby⟩ := hi
  subst hisz hiby
  have hr := run_make (P := P) w t e i z ht hi hiz kl kc l c h0 hlc hb h63
  refine OK.val (run_v (by rw [hx, hy]; exact hr)) (hK _ [Hp.one w.heap.size (.cells (madeCells z.cells (c.toNat * i.size)) e (0, 0))] _ ⟨?_, .inr ⟨w.heap.size, c.toNat, _, rfl, rfl, by omega, by simp [maxLen]; omega, size_madeCells _ _, rfl⟩⟩ (H.alloc _))
  rw [List.length_take, Array.length_toList, size_madeCells, Nat.min_eq_left]
  exact Nat.mul_le_mul_right _ (by omega)
/-- s[i:j] of a text -/
theorem extract_S (a : List UInt8) (i j : Nat) : Value.string ((⟨a.toArray⟩ : ByteArray).extract i j) = S ((a.take j).drop i) := by
  unfold S
  congr 1
  apply ByteArray.ext
  rw [ByteArray.data_extract]
  simp [List.drop_take]
theorem run_ssl {t : TypeId} {a : List UInt8} {k k' : IntKind} {i j : Int} (ht : P.underlying t = some .string) (h0 : 0 ≤ i) (h1 : i ≤ j) (h2 : j ≤ a.length) :
    (Instr.sliceAt t (S a) (some (.int k i)) (some (.int k' j)) none).run P w = .ok (S ((a.take j.toNat).drop i.toNat)) w := by
  have hs := bytes_size a
  have e : ((j.toNat : Nat) : Int) = j := Int.toNat_of_nonneg (by omega)
  rw [run_sliceAt_string _ _ _ _ _ _ ht, ← extract_S]
  unfold S
  simp [Instr.slice, run_underlying ht, Instr.sliceBounds, run_sliceBound, hs, h0, h1, h2, e, (show 0 ≤ j by omega)]
theorem run_ssl_l {t : TypeId} {a : List UInt8} {k : IntKind} {i : Int} (ht : P.underlying t = some .string) (h0 : 0 ≤ i) (h1 : i ≤ a.length) :
    (Instr.sliceAt t (S a) (some (.int k i)) none none).run P w = .ok (S (a.drop i.toNat)) w := by
  have hs := bytes_size a
  rw [run_sliceAt_string _ _ _ _ _ _ ht]
  have := extract_S a i.toNat a.length
  rw [List.take_of_length_le (Nat.le_refl _)] at this
  rw [← this]
  unfold S
  simp [Instr.slice, run_underlying ht, Instr.sliceBounds, run_sliceBound, hs, h0, h1]
theorem run_ssl_h {t : TypeId} {a : List UInt8} {k : IntKind} {j : Int} (ht : P.underlying t = some .string) (h0 : 0 ≤ j) (h1 : j ≤ a.length) :
    (Instr.sliceAt t (S a) none (some (.int k j)) none).run P w = .ok (S (a.take j.toNat)) w := by
  have hs := bytes_size a
  rw [run_sliceAt_string _ _ _ _ _ _ ht]
  have := extract_S a 0 j.toNat
  rw [List.drop_zero] at this
  rw [← this]
  unfold S
  simp [Instr.slice, run_underlying ht, Instr.sliceBounds, run_sliceBound, hs, h0, h1]
theorem o_ssl {x y z : Operand} {t : TypeId} {a : List UInt8} {k k' : IntKind} {i j : Int} (ht : P.underlying t = some .string) (hx : ρ x = S a) (hy : ρ y = .int k i) (hz : ρ z = .int k' j)
    (h0 : 0 ≤ i) (h1 : i ≤ j) (h2 : j ≤ a.length) (hK : K (S ((a.take j.toNat).drop i.toNat)) w) : OK P ⟨dst, .slice t x (some y) (some z) none, T, pos, after, g⟩ ρ w K :=
  OK.val (run_v (by simp only [hx, hy, hz, Option.map_some, Option.map_none]; exact run_ssl ht h0 h1 h2)) hK
theorem o_ssl_l {x y : Operand} {t : TypeId} {a : List UInt8} {k : IntKind} {i : Int} (ht : P.underlying t = some .string) (hx : ρ x = S a) (hy : ρ y = .int k i)
    (h0 : 0 ≤ i) (h1 : i ≤ a.length) (hK : K (S (a.drop i.toNat)) w) : OK P ⟨dst, .slice t x (some y) none none, T, pos, after, g⟩ ρ w K :=
  OK.val (run_v (by simp only [hx, hy, Option.map_some, Option.map_none]; exact run_ssl_l ht h0 h1)) hK
theorem o_ssl_h {x z : Operand} {t : TypeId} {a : List UInt8} {k : IntKind} {j : Int} (ht : P.underlying t = some .string) (hx : ρ x = S a) (hz : ρ z = .int k j)
    (h0 : 0 ≤ j) (h1 : j ≤ a.length) (hK : K (S (a.take j.toNat)) w) : OK P ⟨dst, .slice t x none (some z) none, T, pos, after, g⟩ ρ w K :=
  OK.val (run_v (by simp only [hx, hz, Option.map_some, Option.map_none]; exact run_ssl_h ht h0 h1)) hK

/-- parts of rows that are read -/
theorem CellsAt.drop {L : List Hp} {b off k : Nat} {cs : List Value} (H : CellsAt L b off cs) : CellsAt L b (off + k) (cs.drop k) := H.sub fun j v hv => by rwa [List.getElem?_drop] at hv
theorem CellsAt.take {L : List Hp} {b off k : Nat} {cs : List Value} (H : CellsAt L b off cs) : CellsAt L b off (cs.take k) :=
  H.sub (k := 0) fun j v hv => by
    rw [List.getElem?_take] at hv
    split at hv
    · simpa using hv
    · cases hv
end ops
end Go.Q
namespace Go.Q

section control
variable {P : Program} {Q : Exit → Act → World → Prop} {w : World} {N : Nat} {r : Nat → Value}

theorem c_cond {p : Prop} [Decidable p] {c : Operand} {x y : Code} (hc : ev N r c = .bool (decide p)) (ht : p → x.wp P Q (fr N r) w) (hf : ¬ p → y.wp P Q (fr N r) w) : (Code.cond c x y).wp P Q (fr N r) w :=
  wp_cond_split (t := decide p) (by rw [fr_eval]; exact hc) (fun h => ht (of_decide_eq_true h)) (fun h => hf (of_decide_eq_false h))
theorem c_condb {b : Bool} {c : Operand} {x y : Code} (hc : ev N r c = .bool b) (ht : b = true → x.wp P Q (fr N r) w) (hf : b = false → y.wp P Q (fr N r) w) : (Code.cond c x y).wp P Q (fr N r) w :=
  wp_cond_split (t := b) (by rw [fr_eval]; exact hc) ht hf
theorem c_true {c : Operand} {x y : Code} {b : Bool} (hc : ev N r c = .bool b) (hb : b = true) (h : x.wp P Q (fr N r) w) : (Code.cond c x y).wp P Q (fr N r) w :=
  wp_cond_true (by rw [fr_eval, hc, hb]) h
theorem c_false {c : Operand} {x y : Code} {b : Bool} (hc : ev N r c = .bool b) (hb : b = false) (h : y.wp P Q (fr N r) w) : (Code.cond c x y).wp P Q (fr N r) w :=
  wp_cond_false (by rw [fr_eval, hc, hb]) h
theorem c_region {id : Nat} {ops : List Oper} (h : wpList P ops.toArray Q ops (fr N r) w) : (Code.region id ops.toArray false).wp P Q (fr N r) w := wp_region_lit h

theorem x_in {id : Nat} {a : Act} (h : Q .normal a w) : Exit.inBlock id Q (.exit id) a w := by simp only [Exit.inBlock, if_true]; exact h
/-- A loop: the invariant bears a number that every round lowers. -/
theorem c_loop {c : Code} (I : Nat → (Nat → Value) → World → Prop) (n₀ : Nat) (h₀ : I n₀ r w)
    (round : ∀ n r w, I n r w → c.wp P (Exit.then (fun a' w' => ∃ m r', a' = fr N r' ∧ m < n ∧ I m r' w') Q) (fr N r) w) : (Code.loop c).wp P Q (fr N r) w := by
  intro b k cs
  have key : ∀ n r w, I n r w →
      ∃ e a' w', Q e a' w' ∧ Arrives P (lone (b.at (fr N r) (.code c :: .inLoop c :: k)) cs w) b k cs e a' w' := by
    intro n
    induction n using Nat.strongRecOn with
    | _ n ih =>
      intro r w hI
      obtain ⟨e, a₁, w₁, hq, harr⟩ := round n r w hI b (.inLoop c :: k) cs
      cases e with
      | normal =>
        obtain ⟨m, r₁, rfl, hlt, hI₁⟩ := hq
        obtain ⟨e₂, a₂, w₂, hq₂, harr₂⟩ := ih m hlt r₁ w₁ hI₁
        exact ⟨e₂, a₂, w₂, hq₂, .of_steps (Steps.trans harr (.one step_inLoop)) harr₂⟩
      | exit id => exact ⟨_, a₁, w₁, hq, .pass (x := .inLoop c) rfl (fun _ _ => .inl (by simp)) harr⟩
      | goto l => exact ⟨_, a₁, w₁, hq, .pass (x := .inLoop c) rfl (fun _ _ => .inl (by simp)) harr⟩
      | ret => exact ⟨_, a₁, w₁, hq, .pass (x := .inLoop c) rfl (fun _ _ => .inl (by simp)) harr⟩
      | panic ch => exact ⟨_, a₁, w₁, hq, .pass (x := .inLoop c) rfl (fun _ _ => .inl (by simp)) harr⟩
      | outgrown => exact ⟨_, a₁, w₁, hq, .pass (x := .inLoop c) rfl (fun _ _ => .inl (by simp)) harr⟩
  obtain ⟨e, a', w', hq, harr⟩ := key n₀ r w h₀
  exact ⟨e, a', w', hq, .of_steps (.one step_loop) harr⟩

theorem c_end0 {fn : Func} {R : Ending → World → Prop} (hr : fn.results = #[]) (hR : R (.returned (.tuple #[])) w) : bodyPost P fn R .normal (fr N r) w :=
  bodyPost_end (results_none hr _ _ _) rfl hR
theorem getD_fr (t : Nat) : (fr N r).tmps.getD t undef = ev N r (.tmp t) := by rw [← fr_eval]; rfl
theorem c_ret1 {fn : Func} {R : Ending → World → Prop} {t : Tmp} {v : Value} (hr : fn.results = #[.tmp t]) (hv : ev N r (.tmp t) = v) (hR : R (.returned v) w) : bodyPost P fn R .ret (fr N r) w :=
  bodyPost_ret (v := v) (by rw [results_tmp hr, getD_fr, hv]) rfl hR
theorem c_ret2 {fn : Func} {R : Ending → World → Prop} {t u : Tmp} {v x : Value} (hr : fn.results = #[.tmp t, .tmp u]) (hv : ev N r (.tmp t) = v) (hx : ev N r (.tmp u) = x)
    (hR : R (.returned (.tuple #[v, x])) w) : bodyPost P fn R .ret (fr N r) w :=
  bodyPost_ret (v := .tuple #[v, x]) (by rw [results_tmp2 hr, getD_fr, getD_fr, hv, hx]) rfl hR
theorem c_ret3 {fn : Func} {R : Ending → World → Prop} {t u s : Tmp} {v x y : Value} (hr : fn.results = #[.tmp t, .tmp u, .tmp s]) (hv : ev N r (.tmp t) = v) (hx : ev N r (.tmp u) = x) (hy : ev N r (.tmp s) = y)
    (hR : R (.returned (.tuple #[v, x, y])) w) : bodyPost P fn R .ret (fr N r) w := by
  refine bodyPost_ret (v := .tuple #[v, x, y]) ?_ rfl hR
  have e : ∀ t, (fr N r).tmps[t]?.getD undef = ev N r (.tmp t) := fun t => by rw [← getD_fr, Array.getD_eq_getD_getElem?]
  simp [results, hr, e, ← hv, ← hx, ← hy]
theorem c_enter {f : FuncId} {fn : Func} {c : Code} {args : List Value} {R : Ending → World → Prop} {N : Nat} (hf : P.funcs[f]? = some fn) (hb : fn.body = some c) (hn : fn.ntmps = N) (hN : args.length ≤ N)
    (h : c.wp P (bodyPost P fn R) (fr N (base args)) w) : Calls P f args.toArray w R := by
  refine calls_of_wp hf hb ?_
  have e : ({ tmps := args.toArray ++ Array.replicate (fn.ntmps - args.toArray.size) undef, defers := [] } : Act) = fr N (base args) := by
    have : args.toArray ++ Array.replicate (fn.ntmps - args.toArray.size) undef = (fr N (base args)).tmps := by
      apply Array.ext_getElem?
      intro t
      rw [fr_at, hn, Array.getElem?_append]
      unfold base
      by_cases h1 : t < args.length
      · rw [if_pos (by simpa using h1), if_pos (by omega)]; simp [h1]
      · rw [if_neg (by simpa using h1)]
        by_cases h2 : t < N
        · rw [if_pos h2]; simp [h1, Array.getElem?_replicate]; omega
        · rw [if_neg h2]; simp [Array.getElem?_replicate]; omega
    exact act_ext this rfl
  rw [e]; exact h
end control


/-- The whole is told as one list. -/
theorem Has.all {E w : World} {ss : List (List Hp)} (H : Has E w ss) : Has E w [ss.flatten] := by unfold Has at *; simpa using H
theorem Has.of_all {E w : World} {ss : List (List Hp)} (H : Has E w [ss.flatten]) : Has E w ss := by unfold Has at *; simpa using H
theorem Has.all1 {E w : World} {s : List Hp} {ss : List (List Hp)} (H : Has E w (s :: ss)) : Has E w [s, ss.flatten] := by unfold Has at *; simpa using H
theorem Has.of_all1 {E w : World} {s : List Hp} {ss : List (List Hp)} (H : Has E w [s, ss.flatten]) : Has E w (s :: ss) := by unfold Has at *; simpa using H
theorem Has.all2 {E w : World} {s t : List Hp} {ss : List (List Hp)} (H : Has E w (s :: t :: ss)) : Has E w [s, t, ss.flatten] := by unfold Has at *; simpa using H
theorem Has.of_all2 {E w : World} {s t : List Hp} {ss : List (List Hp)} (H : Has E w [s, t, ss.flatten]) : Has E w (s :: t :: ss) := by unfold Has at *; simpa using H

theorem w64 {x : Int} (h0 : -9223372036854775808 ≤ x) (h1 : x ≤ 9223372036854775807) : IntKind.wrap .i64 x = x := by rw [IntKind.wrap_i64]; omega
theorem w_u8 (b : UInt8) : IntKind.wrap .i64 (b.toNat : Int) = b.toNat := w64 (by omega) (by have := b.toNat_lt; omega)
def iV (x : Int) : Value := .int .i64 x
def bV (b : UInt8) : Value := .int .u8 b.toNat
abbrev Ints (L : List Hp) (v : Value) (l : List Int) : Prop := Sl L 1 v l.length (l.map iV)
theorem Sl.le {L : List Hp} {sz n : Nat} {v : Value} {cs : List Value} (H : Sl L sz v n cs) : n ≤ 9223372036854775807 := by
  obtain ⟨p, cap, e, a, b, c⟩ := H; omega
theorem get_some {α : Type} {l : List α} {k : Nat} (h : k < l.length) : ∃ x, l[k]? = some x := ⟨_, List.getElem?_eq_getElem h⟩
theorem take_succ_of {α : Type} {l : List α} {k : Nat} {x : α} (h : l[k]? = some x) : l.take (k + 1) = l.take k ++ [x] := by
  rw [List.take_add_one, h]; rfl

def Callable (P : Program) (f : FuncId) : Prop := ∃ fn, P.funcs[f]? = some fn ∧ fn.body.isNone = false ∧ (fn.name == "runtime.NumGoroutine") = false

section ops
variable {P : Program} {ρ : Operand → Value} {E w : World} {ss : List (List Hp)} {K : Value → World → Prop} {dst : Option Tmp} {T : TypeId} {pos : String} {after : Array Edge} {g : Option (Nat × Bool)}
theorem o_callf {c : Operand} {f : FuncId} {first captured : Array Value} {args : Array Operand} {ts : Array TypeId} {vs : Array Value} {R : Ending → World → Prop} (hf : Callable P f)
    (hv : ρ c = .func (.func f) first captured) (hargs : first ++ args.map ρ ++ captured = vs) (hc : Calls P f vs w R)
    (hK : ∀ e w', R e w' → ∃ v, e = .returned v ∧ K v w') : OK P ⟨dst, .call ⟨.value c, args, ts⟩, T, pos, after, g⟩ ρ w K := by
  obtain ⟨fn, h1, h2, h3⟩ := hf
  exact o_call h1 h2 h3 hv hargs hc hK
/-- an element's place in a row of one cell each -/
theorem o_index1 {α : Type} {f : α → Value} {l : List α} {a : α} {x y : Operand} {t e : TypeId} {L : List Hp} {by_ : Nat} {v z : Value} {k : IntKind} {i : Int} (ht : P.underlying t = some (.slice e)) (hi : TI P e z 1 by_)
    (hx : ρ x = v) (hs : Sl L 1 v l.length (l.map f)) (hy : ρ y = .int k i) (h0 : 0 ≤ i) (ha : l[i.toNat]? = some a) (hK : ∀ b off, CellsAt L b off [f a] → K (.pointer (some ⟨b, off, none⟩)) w) :
    OK P ⟨dst, .indexAddr t x y, T, pos, after, g⟩ ρ w K := by
  have hlt : i.toNat < l.length := (List.getElem?_eq_some_iff.1 ha).1
  refine o_indexAddr ht hi hx hs hy h0 (by omega) fun b off hc => hK b off ?_
  rw [drop_take_map f l _ hlt] at hc
  have := (List.getElem?_eq_some_iff.1 ha).2
  rwa [this] at hc
end ops
theorem t_norm {K : Act → World → Prop} {Q : Exit → Act → World → Prop} {a : Act} {w : World} (h : K a w) : Exit.then K Q .normal a w := h
theorem t_exit {K : Act → World → Prop} {Q : Exit → Act → World → Prop} {a : Act} {w : World} {id : Nat} (h : Q (.exit id) a w) : Exit.then K Q (.exit id) a w := h
theorem t_ret {K : Act → World → Prop} {Q : Exit → Act → World → Prop} {a : Act} {w : World} (h : Q .ret a w) : Exit.then K Q .ret a w := h
theorem b_norm {id : Nat} {Q : Exit → Act → World → Prop} {a : Act} {w : World} (h : Q .normal a w) : Exit.inBlock id Q .normal a w := h
theorem b_ret {id : Nat} {Q : Exit → Act → World → Prop} {a : Act} {w : World} (h : Q .ret a w) : Exit.inBlock id Q .ret a w := h
end Go.Q
namespace Go.Q

def depsOf (ops : List Oper) (i : Nat) : List Nat := match ops[i]? with
  | some o => o.after.toList.filterMap fun e => if Region.binds .any e then some e.on else none
  | none => []
/-- Is j ahead of i? -/
def anc (ops : List Oper) : Nat → Nat → Nat → Bool
  | 0, _, _ => false
  | f + 1, i, j => (depsOf ops i).any fun d => d == j || anc ops f d j
def slot (r : Nat → Value) (o : Oper) : Value := match o.dst with | some t => r t | none => undef
def puts (vs : Nat → Value) : List Oper → Nat → (Nat → Value) → (Nat → Value)
  | [], _, r => r
  | o :: l, i, r => puts vs l (i + 1) (match o.dst with | some t => upd r t (vs i) | none => r)

theorem puts_old (vs : Nat → Value) (l : List Oper) : ∀ (i : Nat) (r : Nat → Value) (t : Nat), (∀ o ∈ l, o.dst ≠ some t) → puts vs l i r t = r t := by
  induction l with
  | nil => intro i r t _; rfl
  | cons o l ih =>
    intro i r t h
    rw [puts, ih _ _ _ (fun o' ho => h o' (List.mem_cons_of_mem _ ho))]
    have := h o (List.mem_cons_self ..)
    cases hd : o.dst with
    | none => rfl
    | some d => rw [hd] at this; exact upd_ne _ _ (fun e => this (by rw [e]))
theorem puts_new (vs : Nat → Value) (l : List Oper) : ∀ (i k : Nat) (r : Nat → Value) (o : Oper) (t : Nat), l[k]? = some o → o.dst = some t →
    (∀ j o', l[j]? = some o' → j ≠ k → o'.dst ≠ some t) → puts vs l i r t = vs (i + k) := by
  induction l with
  | nil => intro i k r o t h; simp at h
  | cons o l ih =>
    intro i k r o' t h hd hne
    cases k with
    | zero =>
      simp at h; subst h
      rw [puts, hd, puts_old]
      · simp only [Nat.add_zero]; exact upd_same _ _ _
      · intro o' ho
        obtain ⟨j, hj⟩ := List.getElem?_of_mem ho
        exact hne (j + 1) o' (by simpa using hj) (by omega)
    | succ k =>
      rw [puts, ih (i + 1) k _ o' t (by simpa using h) hd (fun j o'' hj hjk => hne (j + 1) o'' (by simpa using hj) (by omega))]
      congr 1; omega

theorem mem_depsOf {ops : List Oper} {i : Nat} {o : Oper} (ho : ops[i]? = some o) {e : Edge} (he : e ∈ o.after) (hb : Region.binds .any e = true) : e.on ∈ depsOf ops i := by
  unfold depsOf
  rw [ho]
  exact List.mem_filterMap.2 ⟨e, by simpa using he, by rw [if_pos hb]⟩

/-- What an operation of the region is handed when its turn comes. -/
structure Turn (E : World) (ops : List Oper) (F : List (List Hp)) (C : Nat → List Hp) (Tp : Nat → Value → List Hp → Prop) (N : Nat) (r : Nat → Value) (i : Nat) (r' : Nat → Value) (w : World) (G : List (List Hp)) (hs : Nat → List Hp) : Prop where
  has : Has E w (C i :: G)
  fr : ∀ s ∈ F, s ⊆ G.flatten
  done : ∀ j o, ops[j]? = some o → anc ops ops.length i j = true → Tp j (slot r' o) (hs j) ∧ hs j ⊆ G.flatten
  todo : ∀ j, anc ops ops.length j i = true → C j ⊆ G.flatten
  old : ∀ t, (∀ j o, ops[j]? = some o → o.dst = some t → j = i ∨ anc ops ops.length j i = true) → r' t = r t
  each : ∀ j o, ops[j]? = some o → j ≠ i → C j ⊆ G.flatten ∨ (∃ v, Tp j v (hs j)) ∧ hs j ⊆ G.flatten

/-- May slot t be read at i's turn as it was ahead of the region? -/
def oldB (ops : List Oper) (i t : Nat) : Bool := (List.range ops.length).all fun j => match ops[j]? with
  | some o => o.dst != some t || j == i || anc ops ops.length j i
  | none => true
theorem Turn.was {E : World} {ops : List Oper} {F : List (List Hp)} {C : Nat → List Hp} {Tp : Nat → Value → List Hp → Prop} {N : Nat} {r : Nat → Value} {i : Nat} {r' : Nat → Value} {w : World} {G : List (List Hp)} {hs : Nat → List Hp}
    (H : Turn E ops F C Tp N r i r' w G hs) (t : Nat) (h : oldB ops i t = true) : r' t = r t := by
  refine H.old t fun j o ho hd => ?_
  unfold oldB at h
  rw [List.all_eq_true] at h
  have := h j (List.mem_range.2 (List.getElem?_eq_some_iff.1 ho).1)
  simp only [ho, Bool.or_eq_true, bne_iff_ne, beq_iff_eq] at this
  rcases this with (h | h) | h
  · exact absurd hd h
  · exact .inl h
  · exact .inr h
theorem flow_has {E w : World} {F cs : List (List Hp)} {C : Nat → List Hp} {n : Nat} (H : Has E w (F ++ cs)) (h : ((List.range n).map C).flatten = cs.flatten) : Has E w (F ++ (List.range n).map C) := by
  unfold Has at *; rw [List.flatten_append, h, ← List.flatten_append]; exact H
theorem flow_back {E w : World} {F cs : List (List Hp)} {C : Nat → List Hp} {n : Nat} (H : Has E w (F ++ (List.range n).map C)) (h : ((List.range n).map C).flatten = cs.flatten) : Has E w (F ++ cs) := by
  unfold Has at *; rw [List.flatten_append, ← h, ← List.flatten_append]; exact H
theorem sl_lit {α : Type} {f : α → Value} {l : List α} {b : Nat} {c : Array Value} {T : TypeId} {g : Nat × Nat} {n : Nat} (hc : c.toList = l.map f) (hn : l.length = n) (hm : n ≤ 9223372036854775807) :
    Sl [Hp.one b (.cells c T g)] 1 (.slice (some ⟨b, 0, none⟩) n n) l.length (l.map f) := by
  subst hn
  refine ⟨_, _, rfl, Nat.le_refl _, hm, by simp, fun _ => ⟨b, 0, rfl, CellsAt.one ?_⟩⟩
  rw [hc]; simp only [List.drop_zero]; exact List.take_of_length_le (by simp)
theorem sub_l {s : List Hp} {G : List (List Hp)} : s ⊆ (s :: G).flatten := fun _ hx => by simp only [List.flatten_cons]; exact List.mem_append_left _ hx
section args
variable {ρ : Operand → Value} {a b c d e f : Operand} {u v x y z t : Value}
theorem args0 : #[] ++ (#[] : Array Operand).map ρ ++ #[] = #[] := by simp
theorem args1 (h1 : ρ a = u) : #[] ++ #[a].map ρ ++ #[] = #[u] := by simp [*]
theorem args2 (h1 : ρ a = u) (h2 : ρ b = v) : #[] ++ #[a, b].map ρ ++ #[] = #[u, v] := by simp [*]
theorem args3 (h1 : ρ a = u) (h2 : ρ b = v) (h3 : ρ c = x) : #[] ++ #[a, b, c].map ρ ++ #[] = #[u, v, x] := by simp [*]
theorem args4 (h1 : ρ a = u) (h2 : ρ b = v) (h3 : ρ c = x) (h4 : ρ d = y) : #[] ++ #[a, b, c, d].map ρ ++ #[] = #[u, v, x, y] := by simp [*]
theorem parts0 : (#[] : Array (Nat × Operand)).map (fun (i, x) => (i, ρ x)) = #[] := by simp
theorem parts1 {i : Nat} (h1 : ρ a = u) : #[(i, a)].map (fun (i, x) => (i, ρ x)) = #[(i, u)] := by simp [*]
theorem parts2 {i j : Nat} (h1 : ρ a = u) (h2 : ρ b = v) : #[(i, a), (j, b)].map (fun (i, x) => (i, ρ x)) = #[(i, u), (j, v)] := by simp [*]
theorem parts4 {i j k l : Nat} (h1 : ρ a = u) (h2 : ρ b = v) (h3 : ρ c = x) (h4 : ρ d = y) : #[(i, a), (j, b), (k, c), (l, d)].map (fun (i, x) => (i, ρ x)) = #[(i, u), (j, v), (k, x), (l, y)] := by simp [*]
end args
def by8 (x : Int) : UInt8 := UInt8.ofNat (x % 256).toNat
theorem wrap_by8 (x : Int) : IntKind.wrap .u8 x = ((by8 x).toNat : Int) := by
  unfold by8
  have h0 : 0 ≤ x % 256 := Int.emod_nonneg _ (by omega)
  have h1 : x % 256 < 256 := Int.emod_lt_of_pos _ (by omega)
  rw [UInt8.toNat_ofNat']
  simp only [IntKind.wrap, IntKind.bits, IntKind.signed]
  have : (x % 256).toNat % 2 ^ 8 = (x % 256).toNat := Nat.mod_eq_of_lt (by omega)
  rw [this]
  simp
  omega
theorem Has.first {E w : World} {ss ts : List (List Hp)} (H : Has E w ss) (n : Nat) (h : ss.take n = ts) : Has E w ts := h ▸ H.sub (List.take_sublist _ _)
theorem Has.nil {E w : World} {ss : List (List Hp)} (H : Has E w ss) : Has E w ([] :: ss) := by unfold Has at *; simpa using H
theorem not_dec {p : Prop} [Decidable p] : (!decide p) = decide (¬ p) := by simp
theorem sl_nil {L : List Hp} (sz : Nat) : Sl L sz (.slice none 0 0) 0 [] := ⟨none, 0, rfl, Nat.le_refl _, by omega, by simp, fun h => by omega⟩
def sV (l : List UInt8) : Value := S l
theorem one_iV (l : List Int) : ∀ u ∈ l.map iV, u.oneCell' = true := by intro u hu; obtain ⟨x, _, rfl⟩ := List.mem_map.1 hu; rfl
theorem one_bV (l : List UInt8) : ∀ u ∈ l.map bV, u.oneCell' = true := by intro u hu; obtain ⟨x, _, rfl⟩ := List.mem_map.1 hu; rfl
theorem Own.app {α : Type} {f : α → Value} {e : TypeId} {sz n m : Nat} {v : Value} {a b : List α} {hs : List Hp} (H : Own e sz v (n + m) (a.map f ++ b.map f) hs) (hn : n = a.length := by rfl) (hm : m = b.length := by rfl) :
    Own e sz v (a ++ b).length ((a ++ b).map f) hs := by
  subst hn hm
  rw [List.length_append, List.map_append]; exact H
section ops
variable {P : Program} {ρ : Operand → Value} {E w : World} {ss : List (List Hp)} {K : Value → World → Prop} {dst : Option Tmp} {T : TypeId} {pos : String} {after : Array Edge} {g : Option (Nat × Bool)}
theorem o_pick_t {c x y : Operand} {u : Value} (hc : ρ c = .bool true) (hx : ρ x = u) (h : K u w) : OK P ⟨dst, .pick c x y, T, pos, after, g⟩ ρ w K :=
  o_pick hc rfl rfl (by rw [hx]; exact h)
theorem o_pick_f {c x y : Operand} {u : Value} (hc : ρ c = .bool false) (hy : ρ y = u) (h : K u w) : OK P ⟨dst, .pick c x y, T, pos, after, g⟩ ρ w K :=
  o_pick hc rfl rfl (by rw [hy]; exact h)
/-- string(b) -/
theorem o_bstr {s e t : TypeId} {x : Operand} {v : Value} {L : List Hp} {n : Nat} {l : List UInt8} (hs : P.underlying s = some (.slice e)) (he : P.underlying e = some (.int .u8)) (ht : P.underlying t = some .string)
    (hx : ρ x = v) (hr : Sl L 1 v n (l.map bV)) (H : Has E w ss) (hL : L ⊆ ss.flatten) (hK : K (S l) w) : OK P ⟨dst, .convert s t x, T, pos, after, g⟩ ρ w K := by
  refine OK.val (run_v ?_) hK
  obtain ⟨p, cap, rfl, _, _, hl, hp⟩ := hr
  rw [hx, run_convert_bytes_string w s t e p n cap hs he ht]
  have fold : ∀ (l : List UInt8) (b : ByteArray), (l.map fun c => ((c.toNat : Nat) : Int)).foldl (fun r n => r.push (UInt8.ofNat n.toNat)) b = ⟨b.data ++ l.toArray⟩ := by
    intro l
    induction l with
    | nil => intro b; simp
    | cons c l ih => intro b; simp only [List.map_cons, List.foldl_cons]; rw [ih]; apply ByteArray.ext; simp [ByteArray.push]
  have hn : l.length = n := by simpa using hl
  by_cases h0 : n = 0
  · subst h0
    obtain rfl : l = [] := by simpa using hn
    cases p with
    | none => simp [Conv.bytesToString, S]; rfl
    | some a =>
      have := run_bytesToString (P := P) w a 0 cap [] (by simp [loadCells, loadCellsFrom])
      rw [this]; simp [S]; rfl
  · obtain ⟨b, off, rfl, hc⟩ := hp (by omega)
    have := run_bytesToString (P := P) w ⟨b, off, none⟩ n cap (l.map fun c => ((c.toNat : Nat) : Int)) (by
      have h := run_loadCells_list (P := P) (w := w) ⟨b, off, none⟩ (l.map bV) (fun j v hv => by rw [add_lit]; exact H.cell hL hc hv)
      rw [List.length_map, hn] at h
      rw [h, List.map_map]; rfl)
    rw [this, fold]
    simp [S]
end ops
theorem s_offu {P : Program} {ops : List Oper} {Q : Exit → Act → World → Prop} {w : World} {rest : List Oper} {N : Nat} {r : Nat → Value} {d : Nat} {op : Op} {T : TypeId} {pos : String} {after : Array Edge} {g : Nat} {b : Bool} (t : Nat)
    (hgt : dstOf ops g = some t) (hv : ev N r (.tmp t) = undef) (h : wpList P ops.toArray Q rest (fr N (upd r d undef)) w) :
    wpList P ops.toArray Q (⟨some d, op, T, pos, after, some (g, b)⟩ :: rest) (fr N r) w := by
  obtain ⟨og, hg, ht⟩ := dstOf_spec ops g hgt
  have hy : yielded ops.toArray (fr N r).tmps g = none := by
    simp only [yielded, hg, ht, Option.bind_some, fr_at]
    by_cases h : t < N
    · have hb : Nat.blt t N = true := by simpa using h
      simp only [ev, hb] at hv
      have hv' : r t = undef := hv
      rw [if_pos h, hv']; rfl
    · rw [if_neg h]
  have hw : Region.wanted ⟨some d, op, T, pos, after, some (g, b)⟩ (yielded ops.toArray (fr N r).tmps) = false := by
    simp only [Region.wanted, hy]; cases b <;> rfl
  unfold wpList
  rw [if_neg (by rw [hw]; simp), fr_put]
  exact h
theorem shl_lit {x : Int} {k : Int} {m : Nat} {d : Int} (h0 : -9223372036854775808 ≤ x * d) (h1 : x * d ≤ 9223372036854775807) (h : (2 : Int) ^ (min k.toNat m) = d) :
    IntKind.wrap .i64 (x * 2 ^ (min k.toNat m)) = x * d := by rw [h]; exact w64 h0 h1
theorem first_byte {s : List UInt8} {b : UInt8} (h : s[0]? = some b) (hb : b.toNat ≤ 127) : ∀ c, s[0]? = some c → c.toNat ≤ 127 := by
  intro c hc; rw [h] at hc; cases hc; exact hb
end Go.Q
namespace Go.Q
open Go.Proofs
theorem ti3 : TI Tryz.prog 3 (.int .i64 0) 1 8 := TI.mk (by kernel_rfl)
theorem ti4 : TI Tryz.prog 4 (.bool false) 1 1 := TI.mk (by kernel_rfl)
theorem ti5 : TI Tryz.prog 5 (.int .u8 0) 1 1 := TI.mk (by kernel_rfl)
theorem ti9 : TI Tryz.prog 9 (.string ⟨#[]⟩) 1 16 := TI.mk (by kernel_rfl)
theorem ti34 : TI Tryz.prog 34 (.slice none 0 0) 1 24 := TI.mk (by kernel_rfl)
theorem ti36 : TI Tryz.prog 36 (.agg #[(.int .i64 0), (.int .i64 0), (.slice none 0 0)]) 3 40 := TI.mk (by kernel_rfl)
theorem ti54 : TI Tryz.prog 54 (.slice none 0 0) 1 24 := TI.mk (by kernel_rfl)
theorem ti62 : TI Tryz.prog 62 (.agg #[(.bool false), (.string ⟨#[]⟩)]) 2 24 := TI.mk (by kernel_rfl)
theorem ti70 : TI Tryz.prog 70 (.agg #[(.string ⟨#[]⟩), (.string ⟨#[]⟩)]) 2 32 := TI.mk (by kernel_rfl)
theorem ti123 : TI Tryz.prog 123 (.pointer none) 1 8 := TI.mk (by kernel_rfl)
theorem ti128 : TI Tryz.prog 128 (.agg #[(.int .i64 0), (.int .i64 0)]) 2 16 := TI.mk (by kernel_rfl)
theorem ti143 : TI Tryz.prog 143 (.pointer none) 1 8 := TI.mk (by kernel_rfl)
theorem ti145 : TI Tryz.prog 145 (.agg #[(.pointer none), (.slice none 0 0)]) 2 32 := TI.mk (by kernel_rfl)
theorem ti160 : TI Tryz.prog 160 (.int .u32 0) 1 4 := TI.mk (by kernel_rfl)
theorem ca12 : Callable Tryz.prog 12 := ⟨_, Tryz.func12, by kernel_rfl, by kernel_rfl⟩
theorem ca13 : Callable Tryz.prog 13 := ⟨_, Tryz.func13, by kernel_rfl, by kernel_rfl⟩
theorem ca14 : Callable Tryz.prog 14 := ⟨_, Tryz.func14, by kernel_rfl, by kernel_rfl⟩
theorem ca17 : Callable Tryz.prog 17 := ⟨_, Tryz.func17, by kernel_rfl, by kernel_rfl⟩
theorem ca18 : Callable Tryz.prog 18 := ⟨_, Tryz.func18, by kernel_rfl, by kernel_rfl⟩
theorem ca20 : Callable Tryz.prog 20 := ⟨_, Tryz.func20, by kernel_rfl, by kernel_rfl⟩
theorem ca24 : Callable Tryz.prog 24 := ⟨_, Tryz.func24, by kernel_rfl, by kernel_rfl⟩
theorem ca27 : Callable Tryz.prog 27 := ⟨_, Tryz.func27, by kernel_rfl, by kernel_rfl⟩
theorem ca32 : Callable Tryz.prog 32 := ⟨_, Tryz.func32, by kernel_rfl, by kernel_rfl⟩
theorem ca33 : Callable Tryz.prog 33 := ⟨_, Tryz.func33, by kernel_rfl, by kernel_rfl⟩
theorem ca34 : Callable Tryz.prog 34 := ⟨_, Tryz.func34, by kernel_rfl, by kernel_rfl⟩
theorem ca35 : Callable Tryz.prog 35 := ⟨_, Tryz.func35, by kernel_rfl, by kernel_rfl⟩
theorem ca36 : Callable Tryz.prog 36 := ⟨_, Tryz.func36, by kernel_rfl, by kernel_rfl⟩
theorem ca37 : Callable Tryz.prog 37 := ⟨_, Tryz.func37, by kernel_rfl, by kernel_rfl⟩
theorem ca39 : Callable Tryz.prog 39 := ⟨_, Tryz.func39, by kernel_rfl, by kernel_rfl⟩
theorem ca42 : Callable Tryz.prog 42 := ⟨_, Tryz.func42, by kernel_rfl, by kernel_rfl⟩
theorem ca45 : Callable Tryz.prog 45 := ⟨_, Tryz.func45, by kernel_rfl, by kernel_rfl⟩
theorem ca46 : Callable Tryz.prog 46 := ⟨_, Tryz.func46, by kernel_rfl, by kernel_rfl⟩
theorem ca50 : Callable Tryz.prog 50 := ⟨_, Tryz.func50, by kernel_rfl, by kernel_rfl⟩
theorem ca51 : Callable Tryz.prog 51 := ⟨_, Tryz.func51, by kernel_rfl, by kernel_rfl⟩
theorem ca52 : Callable Tryz.prog 52 := ⟨_, Tryz.func52, by kernel_rfl, by kernel_rfl⟩
theorem ca53 : Callable Tryz.prog 53 := ⟨_, Tryz.func53, by kernel_rfl, by kernel_rfl⟩
theorem ca54 : Callable Tryz.prog 54 := ⟨_, Tryz.func54, by kernel_rfl, by kernel_rfl⟩
theorem ca55 : Callable Tryz.prog 55 := ⟨_, Tryz.func55, by kernel_rfl, by kernel_rfl⟩
theorem ca56 : Callable Tryz.prog 56 := ⟨_, Tryz.func56, by kernel_rfl, by kernel_rfl⟩
theorem ca57 : Callable Tryz.prog 57 := ⟨_, Tryz.func57, by kernel_rfl, by kernel_rfl⟩
theorem ca58 : Callable Tryz.prog 58 := ⟨_, Tryz.func58, by kernel_rfl, by kernel_rfl⟩
theorem ca62 : Callable Tryz.prog 62 := ⟨_, Tryz.func62, by kernel_rfl, by kernel_rfl⟩
theorem ca63 : Callable Tryz.prog 63 := ⟨_, Tryz.func63, by kernel_rfl, by kernel_rfl⟩
theorem ca64 : Callable Tryz.prog 64 := ⟨_, Tryz.func64, by kernel_rfl, by kernel_rfl⟩
theorem ca65 : Callable Tryz.prog 65 := ⟨_, Tryz.func65, by kernel_rfl, by kernel_rfl⟩
theorem ca66 : Callable Tryz.prog 66 := ⟨_, Tryz.func66, by kernel_rfl, by kernel_rfl⟩
theorem ca67 : Callable Tryz.prog 67 := ⟨_, Tryz.func67, by kernel_rfl, by kernel_rfl⟩
theorem ca68 : Callable Tryz.prog 68 := ⟨_, Tryz.func68, by kernel_rfl, by kernel_rfl⟩
theorem ca69 : Callable Tryz.prog 69 := ⟨_, Tryz.func69, by kernel_rfl, by kernel_rfl⟩
theorem ca72 : Callable Tryz.prog 72 := ⟨_, Tryz.func72, by kernel_rfl, by kernel_rfl⟩
theorem ca73 : Callable Tryz.prog 73 := ⟨_, Tryz.func73, by kernel_rfl, by kernel_rfl⟩
theorem ca74 : Callable Tryz.prog 74 := ⟨_, Tryz.func74, by kernel_rfl, by kernel_rfl⟩
theorem ca75 : Callable Tryz.prog 75 := ⟨_, Tryz.func75, by kernel_rfl, by kernel_rfl⟩
theorem ca76 : Callable Tryz.prog 76 := ⟨_, Tryz.func76, by kernel_rfl, by kernel_rfl⟩
theorem ca77 : Callable Tryz.prog 77 := ⟨_, Tryz.func77, by kernel_rfl, by kernel_rfl⟩
theorem ca78 : Callable Tryz.prog 78 := ⟨_, Tryz.func78, by kernel_rfl, by kernel_rfl⟩
theorem ca79 : Callable Tryz.prog 79 := ⟨_, Tryz.func79, by kernel_rfl, by kernel_rfl⟩
theorem ca80 : Callable Tryz.prog 80 := ⟨_, Tryz.func80, by kernel_rfl, by kernel_rfl⟩
theorem ca87 : Callable Tryz.prog 87 := ⟨_, Tryz.func87, by kernel_rfl, by kernel_rfl⟩
theorem ca94 : Callable Tryz.prog 94 := ⟨_, Tryz.func94, by kernel_rfl, by kernel_rfl⟩
theorem ca95 : Callable Tryz.prog 95 := ⟨_, Tryz.func95, by kernel_rfl, by kernel_rfl⟩
theorem ca96 : Callable Tryz.prog 96 := ⟨_, Tryz.func96, by kernel_rfl, by kernel_rfl⟩
theorem ca97 : Callable Tryz.prog 97 := ⟨_, Tryz.func97, by kernel_rfl, by kernel_rfl⟩
theorem ca98 : Callable Tryz.prog 98 := ⟨_, Tryz.func98, by kernel_rfl, by kernel_rfl⟩
theorem ca103 : Callable Tryz.prog 103 := ⟨_, Tryz.func103, by kernel_rfl, by kernel_rfl⟩
theorem ca104 : Callable Tryz.prog 104 := ⟨_, Tryz.func104, by kernel_rfl, by kernel_rfl⟩
theorem ca105 : Callable Tryz.prog 105 := ⟨_, Tryz.func105, by kernel_rfl, by kernel_rfl⟩
theorem ca106 : Callable Tryz.prog 106 := ⟨_, Tryz.func106, by kernel_rfl, by kernel_rfl⟩
theorem ca107 : Callable Tryz.prog 107 := ⟨_, Tryz.func107, by kernel_rfl, by kernel_rfl⟩
theorem ca108 : Callable Tryz.prog 108 := ⟨_, Tryz.func108, by kernel_rfl, by kernel_rfl⟩
theorem ca111 : Callable Tryz.prog 111 := ⟨_, Tryz.func111, by kernel_rfl, by kernel_rfl⟩
theorem ca112 : Callable Tryz.prog 112 := ⟨_, Tryz.func112, by kernel_rfl, by kernel_rfl⟩
theorem ca113 : Callable Tryz.prog 113 := ⟨_, Tryz.func113, by kernel_rfl, by kernel_rfl⟩
theorem ca120 : Callable Tryz.prog 120 := ⟨_, Tryz.func120, by kernel_rfl, by kernel_rfl⟩
theorem ca121 : Callable Tryz.prog 121 := ⟨_, Tryz.func121, by kernel_rfl, by kernel_rfl⟩
theorem ca122 : Callable Tryz.prog 122 := ⟨_, Tryz.func122, by kernel_rfl, by kernel_rfl⟩
theorem ca123 : Callable Tryz.prog 123 := ⟨_, Tryz.func123, by kernel_rfl, by kernel_rfl⟩
theorem ca127 : Callable Tryz.prog 127 := ⟨_, Tryz.func127, by kernel_rfl, by kernel_rfl⟩
theorem ca137 : Callable Tryz.prog 137 := ⟨_, Tryz.func137, by kernel_rfl, by kernel_rfl⟩
theorem ca138 : Callable Tryz.prog 138 := ⟨_, Tryz.func138, by kernel_rfl, by kernel_rfl⟩
theorem ca139 : Callable Tryz.prog 139 := ⟨_, Tryz.func139, by kernel_rfl, by kernel_rfl⟩
theorem ca142 : Callable Tryz.prog 142 := ⟨_, Tryz.func142, by kernel_rfl, by kernel_rfl⟩
theorem ca143 : Callable Tryz.prog 143 := ⟨_, Tryz.func143, by kernel_rfl, by kernel_rfl⟩
theorem ca160 : Callable Tryz.prog 160 := ⟨_, Tryz.func160, by kernel_rfl, by kernel_rfl⟩
theorem ca161 : Callable Tryz.prog 161 := ⟨_, Tryz.func161, by kernel_rfl, by kernel_rfl⟩
theorem ca162 : Callable Tryz.prog 162 := ⟨_, Tryz.func162, by kernel_rfl, by kernel_rfl⟩
theorem ca163 : Callable Tryz.prog 163 := ⟨_, Tryz.func163, by kernel_rfl, by kernel_rfl⟩
theorem ca165 : Callable Tryz.prog 165 := ⟨_, Tryz.func165, by kernel_rfl, by kernel_rfl⟩
theorem ca175 : Callable Tryz.prog 175 := ⟨_, Tryz.func175, by kernel_rfl, by kernel_rfl⟩
theorem ca176 : Callable Tryz.prog 176 := ⟨_, Tryz.func176, by kernel_rfl, by kernel_rfl⟩
theorem ca177 : Callable Tryz.prog 177 := ⟨_, Tryz.func177, by kernel_rfl, by kernel_rfl⟩
theorem ca178 : Callable Tryz.prog 178 := ⟨_, Tryz.func178, by kernel_rfl, by kernel_rfl⟩
theorem ca184 : Callable Tryz.prog 184 := ⟨_, Tryz.func184, by kernel_rfl, by kernel_rfl⟩
theorem ca185 : Callable Tryz.prog 185 := ⟨_, Tryz.func185, by kernel_rfl, by kernel_rfl⟩
theorem mixed : Tryz.prog.follows .mixedOrders = true := by kernel_rfl
end Go.Q
namespace Go.Q

theorem sl_raw {b o sz n cap : Nat} {c : Array Value} {e : TypeId} {g : Nat × Nat} (hfit : o + n * sz ≤ c.size) (hn : n ≤ cap) (hm : cap ≤ 9223372036854775807) :
    Sl [Hp.one b (.cells c e g)] sz (.slice (some ⟨b, o, none⟩) n cap) n ((c.toList.drop o).take (n * sz)) := by
  refine ⟨_, _, rfl, hn, hm, ?_, fun _ => ⟨b, o, rfl, CellsAt.one ?_⟩⟩
  · rw [List.length_take, List.length_drop, Array.length_toList, Nat.min_eq_left (by omega)]
  · rw [List.length_take, List.length_drop, Array.length_toList, Nat.min_eq_left (by omega)]

/-- cells of the front block, written from a place on -/
theorem Has.setRow {E w : World} {ss : List (List Hp)} {b : Nat} {c c' : Array Value} {e : TypeId} (H : Has E w ([Hp.one b (.cells c e (0, 0))] :: ss)) : Has E (w.setRow b c') ([Hp.one b (.cells c' e (0, 0))] :: ss) := by
  have hwb : w.heap[b]? = some (.cells c e (0, 0)) := H.at (h := Hp.one b (.cells c e (0, 0))) (by simp) (Hp.one_at _ _)
  refine Has0.write (an := [Hp.one b (.cells c e (0, 0))]) (an' := [Hp.one b (.cells c' e (0, 0))]) (hs := ss.flatten) H rfl rfl rfl (by simp) ?_ ?_ ?_
  · intro k hk
    have hk := hk _ (List.mem_singleton.2 rfl)
    refine .inl fun h hh => ?_
    rw [List.mem_singleton.1 hh]
    unfold Hp.one at hk ⊢
    split at hk
    · cases hk
    · rw [if_neg (by assumption)]
  · intro h hh k o hk
    rw [List.mem_singleton.1 hh] at hk
    obtain ⟨rfl, rfl⟩ := Hp.one_some hk
    simp only [World.setRow, Array.getElem?_modify]
    simp [hwb]
  · intro k _ hk
    have hk := hk _ (List.mem_singleton.2 rfl)
    have : k ≠ b := by rintro rfl; rw [Hp.one_at] at hk; cases hk
    simp only [World.setRow, Array.getElem?_modify]
    rw [if_neg (by omega)]

section ops
variable {P : Program} {ρ : Operand → Value} {E w : World} {ss : List (List Hp)} {K : Value → World → Prop} {dst : Option Tmp} {T : TypeId} {pos : String} {after : Array Edge} {g : Option (Nat × Bool)}

theorem rsl_ex (o sz : Nat) {i j m : Int} (h0 : 0 ≤ i) (h1 : i ≤ j) (h2 : j ≤ m) :
    ∃ o' n' c' : Nat, (o' = if m = i then o else o + i.toNat * sz) ∧ (n' : Int) = j - i ∧ (c' : Int) = m - i ∧ (0 < c' → o' = o + i.toNat * sz) :=
  ⟨_, (j - i).toNat, (m - i).toNat, rfl, by omega, by omega, fun h => if_neg (by omega)⟩
theorem o_rsl2 {x : Operand} {lo hi mx : Option Operand} {t e : TypeId} {z : Value} {sz by_ b o n cap o' n' c' : Nat} {i j m : Int} (ht : P.underlying t = some (.slice e)) (hti : TI P e z sz by_)
    (hx : ρ x = .slice (some ⟨b, o, none⟩) n cap)
    (hr : ∀ w, (Instr.sliceBounds true n cap (lo.map ρ) (hi.map ρ) (mx.map ρ)).run P w = .ok (i.toNat, j.toNat, m.toNat) w)
    (h0 : 0 ≤ i) (h1 : i ≤ j) (h2 : j ≤ m) (ho : o' = if m = i then o else o + i.toNat * sz) (hn : (n' : Int) = j - i) (hc : (c' : Int) = m - i)
    (hK : K (.slice (some ⟨b, o', none⟩) n' c') w) : OK P ⟨dst, .slice t x lo hi mx, T, pos, after, g⟩ ρ w K := by
  have e1 : P.elem t = e := by simp [Program.elem, ht]
  have hrun : (Instr.sliceAt t (ρ x) (lo.map ρ) (hi.map ρ) (mx.map ρ)).run P w = .ok (sliced (some ⟨b, o, none⟩) i.toNat j.toNat m.toNat sz) w := by
    rw [hx, run_sliceAt_slice _ _ _ _ _ _ (by rw [e1]; exact ht), run_slice_any _ _ _ _ _ (by rw [e1]; exact ht), hr, e1]
    simp only [Result.andThen_ok, hti.size]
  obtain rfl : n' = j.toNat - i.toNat := by omega
  obtain rfl : c' = m.toNat - i.toNat := by omega
  subst ho
  by_cases hmi : m = i
  · have : sliced (some (⟨b, o, none⟩ : Addr)) i.toNat j.toNat m.toNat sz = .slice (some ⟨b, o, none⟩) (j.toNat - i.toNat) (m.toNat - i.toNat) := by
      unfold sliced; rw [if_pos (by rw [hmi])]
    rw [this] at hrun
    rw [if_pos hmi] at hK
    exact OK.val (run_v hrun) hK
  · have : sliced (some (⟨b, o, none⟩ : Addr)) i.toNat j.toNat m.toNat sz = .slice (some ⟨b, o + i.toNat * sz, none⟩) (j.toNat - i.toNat) (m.toNat - i.toNat) := by
      unfold sliced; rw [if_neg (by omega)]; simp [add_lit]
    rw [this] at hrun
    rw [if_neg hmi] at hK
    exact OK.val (run_v hrun) hK
theorem bounds_l {n cap : Nat} {k : IntKind} {i : Int} (h0 : 0 ≤ i) (h1 : i ≤ n) (w : World) :
    (Instr.sliceBounds true n cap (some (.int k i)) none none).run P w = .ok (i.toNat, ((n : Int)).toNat, ((cap : Int)).toNat) w := by
  simp [Instr.sliceBounds, run_sliceBound, h0, h1]
theorem bounds_h {n cap : Nat} {k : IntKind} {j : Int} (h0 : 0 ≤ j) (h1 : j ≤ cap) (w : World) :
    (Instr.sliceBounds true n cap none (some (.int k j)) none).run P w = .ok ((0 : Int).toNat, j.toNat, ((cap : Int)).toNat) w := by
  simp [Instr.sliceBounds, run_sliceBound, h0, h1]
/-- copy into a block of one's own -/
theorem o_copy {x y : Operand} {t u e : TypeId} {z v : Value} {sz by_ b o n cap m : Nat} {c : Array Value} {ds : List Value} {L : List Hp} (ht : P.underlying t = some (.slice e)) (hi : TI P e z sz by_)
    (hx : ρ x = .slice (some ⟨b, o, none⟩) n cap) (hy : ρ y = v) (hs : Sl L sz v m ds) (H : Has E w ([Hp.one b (.cells c e (0, 0))] :: ss)) (hL : L ⊆ ([Hp.one b (.cells c e (0, 0))] :: ss).flatten)
    (hfit : 0 < min m n → o + min m n * sz ≤ c.size) (h1 : ∀ u ∈ ds.take (min m n * sz), u.oneCell' = true)
    (hK : ∀ c' w', c'.size = c.size → c'.toList = (if 0 < min m n then c.toList.take o ++ ds.take (min m n * sz) ++ c.toList.drop (o + min m n * sz) else c.toList) → Has E w' ([Hp.one b (.cells c' e (0, 0))] :: ss) → K (.int .i64 ((min m n : Nat) : Int)) w') :
    OK P ⟨dst, .call ⟨.builtin .copy, #[x, y], #[t, u]⟩, T, pos, after, g⟩ ρ w K := by
  obtain ⟨p, cap', rfl, hmc, _, hl, hp⟩ := hs
  obtain ⟨i, hi, hiz, rfl, hiby⟩ := hi
  have hwb : w.heap[b]? = some (.cells c e (0, 0)) := H.at (h := Hp.one b (.cells c e (0, 0))) (by simp) (Hp.one_at _ _)
  by_cases hk : 0 < min m n
  · obtain ⟨b', off, rfl, hc⟩ := hp (by omega)
    have hlen : (ds.take (min m n * i.size)).length = min m n * i.size := by
      rw [List.length_take, hl, Nat.min_eq_left (Nat.mul_le_mul_right _ (Nat.min_le_left _ _))]
    have hload := run_loadCells_list (P := P) (w := w) ⟨b', off, none⟩ (ds.take (min m n * i.size)) (fun j v hv => by
      rw [add_lit]
      refine H.cell hL hc ?_
      rw [List.getElem?_take] at hv
      split at hv
      · exact hv
      · cases hv)
    rw [hlen] at hload
    have hst := run_storeCells_at P b o e (ds.take (min m n * i.size)) 0 c w hwb (by rw [hlen]; exact hfit hk) h1
    simp only [Nat.add_zero, hlen] at hst
    refine o_call_builtin (v := .int .i64 ((min m n : Nat) : Int)) (w' := w.setRow b (c.toList.take o ++ ds.take (min m n * i.size) ++ c.toList.drop (o + min m n * i.size)).toArray) ?_ (hK _ _ ?_ (by rw [if_pos hk]) H.setRow)
    · have hmin : m.min n = min m n := rfl
      simp [hx, hy, builtin, Builtin.copy_, run_underlying ht, Builtin.lenOf, Builtin.firstCells, sizeOf, typeInfo, hi, hmin, hload, hst, goInt]
    · have := hfit hk
      simp only [List.size_toArray, List.length_append, List.length_take, List.length_drop, Array.length_toList, hl]
      have h3 : min m n * i.size ≤ m * i.size := Nat.mul_le_mul_right _ (Nat.min_le_left _ _)
      omega
  · have h0 : min m n = 0 := by omega
    refine o_call_builtin (v := .int .i64 ((min m n : Nat) : Int)) (w' := w) ?_ (hK c _ rfl (by rw [if_neg hk]) H)
    have hmin : m.min n = 0 := h0
    cases p with
    | none => simp [hx, hy, builtin, Builtin.copy_, run_underlying ht, Builtin.lenOf, Builtin.firstCells, sizeOf, typeInfo, hi, hmin, h0, goInt, storeCells]
    | some a => simp [hx, hy, builtin, Builtin.copy_, run_underlying ht, Builtin.lenOf, Builtin.firstCells, sizeOf, typeInfo, hi, hmin, h0, goInt, storeCells, loadCells, loadCellsFrom]

end ops
end Go.Q
namespace Go.Q
theorem wu64 {x : Int} (h0 : 0 ≤ x) (h1 : x ≤ 18446744073709551615) : IntKind.wrap .u64 x = x := by
  simp only [IntKind.wrap, IntKind.bits, IntKind.signed]
  simp only [show (2:Int)^64 = 18446744073709551616 from rfl]
  simp
  omega
section ops
variable {P : Program} {ρ : Operand → Value} {E w : World} {ss : List (List Hp)} {K : Value → World → Prop} {dst : Option Tmp} {T : TypeId} {pos : String} {after : Array Edge} {g : Option (Nat × Bool)}
end ops
end Go.Q
namespace Go.Q
theorem drop_of {α : Type} {l : List α} {k : Nat} {x : α} (h : l[k]? = some x) : l.drop k = x :: l.drop (k + 1) := by
  obtain ⟨hlt, rfl⟩ := List.getElem?_eq_some_iff.1 h
  exact List.drop_eq_getElem_cons hlt
def fitsS (n : Int) (m : Nat) : Bool := decide (0 ≤ n) && (decide ((m : Int) = 8) || decide (Int.fdiv n (2 ^ (min (8 * (m : Int)).toNat 64)) = 0))
/-- a number's j lowest bytes, the highest first -/
def beFrom (n : Int) : Nat → List UInt8
  | 0 => []
  | j + 1 => by8 (n / 2 ^ (8 * j)) :: beFrom n j
theorem beFrom_pred {n : Int} {j : Nat} (h : 0 < j) : beFrom n j = by8 (n / 2 ^ (8 * (j - 1))) :: beFrom n (j - 1) := by
  obtain ⟨j, rfl⟩ : ∃ i, j = i + 1 := ⟨j - 1, by omega⟩
  rfl
theorem by8_shift (n : Int) {j : Nat} (h : 1 ≤ j) (h8 : j ≤ 8) : by8 (Int.fdiv n (2 ^ (min (8 * ((j : Int) - 1)).toNat 64))) = by8 (n / 2 ^ (8 * (j - 1))) := by
  have e : min (8 * ((j : Int) - 1)).toNat 64 = 8 * (j - 1) := by omega
  rw [e, Int.fdiv_eq_ediv_of_nonneg _ (by exact Int.le_of_lt (Int.pow_pos (by omega)))]
theorem beFrom_length (n : Int) (j : Nat) : (beFrom n j).length = j := by induction j <;> simp [beFrom, *]
def putS (m : Nat) (l : List Int) : List UInt8 := if 1 ≤ m ∧ m ≤ 8 ∧ ∀ x ∈ l, fitsS x m = true then l.flatMap (beFrom · m) else []
theorem putS_no {m : Nat} {l : List Int} {x : Int} (h : x ∈ l) (hf : fitsS x m = false) : putS m l = [] := by
  rw [putS, if_neg]
  rintro ⟨_, _, h3⟩
  rw [h3 x h] at hf; cases hf
theorem putS_yes {m : Nat} {l : List Int} (h1 : 1 ≤ m) (h8 : m ≤ 8) (h : ∀ x ∈ l, fitsS x m = true) : putS m l = l.flatMap (beFrom · m) := by
  rw [putS, if_pos ⟨h1, h8, h⟩]
/-- bytes as a number, the highest first -/
def beVal (l : List UInt8) : Int := l.foldl (fun n b => n * 256 + b.toNat) 0
theorem beVal_snoc (l : List UInt8) (b : UInt8) : beVal (l ++ [b]) = beVal l * 256 + b.toNat := by simp [beVal]
theorem beVal_nonneg (l : List UInt8) : 0 ≤ beVal l := by
  have : ∀ (l : List UInt8) (n : Int), 0 ≤ n → 0 ≤ l.foldl (fun n b => n * 256 + (b.toNat : Int)) n := by
    intro l
    induction l with
    | nil => intro n h; exact h
    | cons b l ih => intro n h; exact ih _ (show 0 ≤ n * 256 + (b.toNat : Int) by omega)
  exact this l 0 (by omega)
theorem foldl_bound : ∀ (l : List UInt8) (n : Int), 0 ≤ n → l.foldl (fun n b => n * 256 + (b.toNat : Int)) n < (n + 1) * 256 ^ l.length := by
  intro l
  induction l with
  | nil => intro n _; simp; omega
  | cons b l ih =>
    intro n h
    have hb := b.toNat_lt
    refine Int.lt_of_lt_of_le (ih (n * 256 + b.toNat) (by omega)) ?_
    have h1 : (n * 256 + (b.toNat : Int) + 1) ≤ (n + 1) * 256 := by omega
    have h2 : (0 : Int) ≤ 256 ^ l.length := Int.le_of_lt (Int.pow_pos (by omega))
    have h3 := Int.mul_le_mul_of_nonneg_right h1 h2
    rw [List.length_cons, Int.pow_succ, ← Int.mul_assoc, Int.mul_right_comm]
    exact h3
theorem beVal_lt_pow (l : List UInt8) : beVal l < 256 ^ l.length := by
  have := foldl_bound l 0 (by omega); simpa [beVal] using this
theorem pow_mono {a b : Nat} (h : a ≤ b) : (256 : Int) ^ a ≤ 256 ^ b := by
  have h2 := Int.ofNat_le.2 (Nat.pow_le_pow_right (n := 256) (by omega) h)
  rw [Int.natCast_pow, Int.natCast_pow] at h2
  exact h2
theorem beVal_lt {s : List UInt8} {i m : Nat} (h : i < m) (h8 : m ≤ 8) (hs : m ≤ s.length) (hc : m ≤ 7 ∨ ∀ c, s[0]? = some c → c.toNat ≤ 127) : beVal (s.take i) < 36028797018963968 := by
  have hl : (s.take i).length = i := by rw [List.length_take]; omega
  rcases hc with hc | hc
  · have h1 := beVal_lt_pow (s.take i)
    rw [hl] at h1
    have h2 := pow_mono (show i ≤ 6 by omega)
    have : (256 : Int) ^ 6 = 281474976710656 := by decide
    omega
  · cases i with
    | zero => simp [beVal]
    | succ i =>
      cases s with
      | nil => simp at hs; omega
      | cons c s =>
        have hcc := hc c rfl
        rw [List.take_succ_cons]
        have h1 := foldl_bound (s.take i) c.toNat (by omega)
        have hl' : (s.take i).length = i := by simpa using hl
        rw [hl'] at h1
        have h2 := pow_mono (show i ≤ 6 by omega)
        have h3 : (256 : Int) ^ 6 = 281474976710656 := by decide
        have h4 : ((c.toNat : Int) + 1) * 256 ^ i ≤ 128 * 256 ^ i := Int.mul_le_mul_of_nonneg_right (by omega) (Int.le_of_lt (Int.pow_pos (by omega)))
        have h5 : beVal (c :: s.take i) = (s.take i).foldl (fun n b => n * 256 + (b.toNat : Int)) c.toNat := by simp [beVal]
        rw [h5]
        omega
theorem or8 {x : Int} (h0 : 0 ≤ x) (h1 : x < 36028797018963968) (b : UInt8) : IntKind.wrap .i64 ((BitVec.ofInt 64 (x * 256) ||| BitVec.ofInt 64 (b.toNat : Int)).toNat : Int) = x * 256 + b.toNat := by
  obtain ⟨n, rfl⟩ := Int.eq_ofNat_of_zero_le h0
  have hb := b.toNat_lt
  have e1 : (BitVec.ofInt 64 ((n : Int) * 256)).toNat = n * 256 := by
    rw [show ((n : Int) * 256) = ((n * 256 : Nat) : Int) by omega, BitVec.ofInt_natCast, BitVec.toNat_ofNat]
    exact Nat.mod_eq_of_lt (by omega)
  have e2 : (BitVec.ofInt 64 (b.toNat : Int)).toNat = b.toNat := by
    rw [BitVec.ofInt_natCast, BitVec.toNat_ofNat]
    exact Nat.mod_eq_of_lt (by omega)
  have e3 : n * 256 ||| b.toNat = n * 256 + b.toNat := by
    have := Nat.shiftLeft_add_eq_or_of_lt (i := 8) (b := b.toNat) (by omega) n
    rw [Nat.shiftLeft_eq, show 2 ^ 8 = 256 from rfl] at this
    omega
  rw [BitVec.toNat_or, e1, e2, e3]
  rw [w64 (by omega) (by omega)]
  omega
def takeS (s : List UInt8) (m : Nat) : Int × List UInt8 × Bool :=
  if 1 ≤ m ∧ m ≤ 8 ∧ m ≤ s.length ∧ (m ≤ 7 ∨ ∀ c, s[0]? = some c → c.toNat ≤ 127) then (beVal (s.take m), s.drop m, true) else (0, s, false)
theorem takeS_yes {s : List UInt8} {m : Nat} (h1 : 1 ≤ m) (h2 : m ≤ 8) (h3 : m ≤ s.length) (h4 : m ≤ 7 ∨ ∀ c, s[0]? = some c → c.toNat ≤ 127) : takeS s m = (beVal (s.take m), s.drop m, true) := by
  rw [takeS, if_pos ⟨h1, h2, h3, h4⟩]
theorem takeS_no {s : List UInt8} {m : Nat} (h : (m < 1 ∨ 8 < m) ∨ s.length < m ∨ (m = 8 ∧ ∃ c, s[0]? = some c ∧ 127 < c.toNat)) : takeS s m = (0, s, false) := by
  rw [takeS, if_neg]
  rintro ⟨h1, h2, h3, h4⟩
  rcases h with h | h | ⟨h, c, hc, hh⟩
  · omega
  · omega
  · rcases h4 with h4 | h4
    · omega
    · have := h4 c hc; omega
end Go.Q
namespace Go.Q
theorem Has.all3 {E w : World} {s t u : List Hp} {ss : List (List Hp)} (H : Has E w (s :: t :: u :: ss)) : Has E w [s, t, u, ss.flatten] := by unfold Has at *; simpa using H
theorem Has.of_all3 {E w : World} {s t u : List Hp} {ss : List (List Hp)} (H : Has E w [s, t, u, ss.flatten]) : Has E w (s :: t :: u :: ss) := by unfold Has at *; simpa using H
theorem Has.all4 {E w : World} {s t u x : List Hp} {ss : List (List Hp)} (H : Has E w (s :: t :: u :: x :: ss)) : Has E w [s, t, u, x, ss.flatten] := by unfold Has at *; simpa using H
theorem Has.of_all4 {E w : World} {s t u x : List Hp} {ss : List (List Hp)} (H : Has E w [s, t, u, x, ss.flatten]) : Has E w (s :: t :: u :: x :: ss) := by unfold Has at *; simpa using H
theorem Sl.one {L : List Hp} {sz n : Nat} {v : Value} {cs : List Value} (h : Sl L sz v n cs) : v.oneCell' = true := by obtain ⟨p, c, rfl⟩ := h.form; rfl
theorem Own.one {e : TypeId} {sz n : Nat} {v : Value} {cs : List Value} {hs : List Hp} (h : Own e sz v n cs hs) : v.oneCell' = true := h.sl.one
end Go.Q
namespace Go.Q
end Go.Q
namespace Go.Q
end Go.Q
namespace Go.Q
theorem o_not2 {P : Program} {ρ : Operand → Value} {w : World} {K : Value → World → Prop} {dst : Option Tmp} {T : TypeId} {pos : String} {after : Array Edge} {g : Option (Nat × Bool)} {t : TypeId} {x : Operand} {b b' : Bool} (hx : ρ x = .bool b) (hb : (!b) = b') (h : K (.bool b') w) :
    OK P ⟨dst, .unOp .not t x, T, pos, after, g⟩ ρ w K := by subst hb; exact o_not hx h
end Go.Q
namespace Go.Q
def OwnAt (e : TypeId) (v : Value) (n : Nat) (cs : List Value) (hs : List Hp) (b : Nat) : Prop :=
  ∃ cap cur, v = .slice (some ⟨b, 0, none⟩) n cap ∧ hs = [Hp.one b (.cells cur e (0, 0))] ∧ n ≤ cap ∧ cap ≤ maxLen ∧ cur.size = cap * 1 ∧ cur.toList.take (n * 1) = cs ∧ cs.length = n * 1
section ops
variable {P : Program} {ρ : Operand → Value} {E w : World} {ss : List (List Hp)} {K : Value → World → Prop} {dst : Option Tmp} {T : TypeId} {pos : String} {after : Array Edge} {g : Option (Nat × Bool)}
theorem o_ownAddr {x y : Operand} {t e : TypeId} {hs : List Hp} {n by_ : Nat} {v z : Value} {cs : List Value} {k : IntKind} {i : Int} (ht : P.underlying t = some (.slice e)) (hi : TI P e z 1 by_)
    (hx : ρ x = v) (ho : Own e 1 v n cs hs) (hy : ρ y = .int k i) (h0 : 0 ≤ i) (h1 : i < n) (hK : ∀ b, OwnAt e v n cs hs b → K (.pointer (some ⟨b, i.toNat, none⟩)) w) :
    OK P ⟨dst, .indexAddr t x y, T, pos, after, g⟩ ρ w K := by
  obtain ⟨hl, ⟨rfl, h2, rfl⟩ | ⟨b, cap, cur, rfl, rfl, hnc, hcm, hsz, hc⟩⟩ := ho
  · omega
  · refine OK.val (run_v (v := .pointer (some ⟨b, i.toNat, none⟩)) ?_) (hK b ⟨cap, cur, rfl, rfl, hnc, hcm, hsz, hc, hl⟩)
    rw [hx, hy]
    simp [Instr.indexAt, asIntOf, run_underlying ht, h0, h1, hi.size, add_lit]
theorem o_ownStore {α : Type} {f : α → Value} {l : List α} {a : α} {x y : Operand} {t e : TypeId} {hs : List Hp} {n i b by_ : Nat} {v z : Value} (hi : TI P t z 1 by_) (hx : ρ x = .pointer (some ⟨b, i, none⟩)) (hy : ρ y = f a)
    (hv : (f a).oneCell' = true) (ho : OwnAt e v n (l.map f) hs b) (hlt : i < n) (H : Has E w (hs :: ss)) (hK : ∀ hs' w', Own e 1 v (l.set i a).length ((l.set i a).map f) hs' → Has E w' (hs' :: ss) → K undef w') :
    OK P ⟨dst, .store t x y, T, pos, after, g⟩ ρ w K := by
  obtain ⟨cap, cur, rfl, rfl, hnc, hcm, hsz, hc, hl⟩ := ho
  have hln : (l.set i a).length = n := by simpa using hl
  refine o_store1 (c' := cur.setIfInBounds i (f a)) hi hx hy hv (by omega) rfl H fun w' H' => hK _ w' ?_ H'
  rw [hln]
  refine ⟨by simpa using hl, .inr ⟨b, cap, _, rfl, rfl, hnc, hcm, by simpa using hsz, ?_⟩⟩
  rw [Array.toList_setIfInBounds, List.take_set, hc, List.map_set]
end ops
end Go.Q
namespace Go.Q
abbrev Bs := List UInt8
theorem flat_len {α : Type} {f : α → List Value} {sz : Nat} (hf : ∀ a, (f a).length = sz) : ∀ l : List α, (l.flatMap f).length = l.length * sz
  | [] => by simp
  | a :: l => by rw [List.flatMap_cons, List.length_append, hf, flat_len hf l, List.length_cons, Nat.succ_mul, Nat.add_comm]
theorem flat_part {α : Type} {f : α → List Value} {sz : Nat} (hf : ∀ a, (f a).length = sz) : ∀ (l : List α) (i : Nat) (x : α), l[i]? = some x → ((l.flatMap f).drop (i * sz)).take sz = f x
  | [], i, x, h => by simp at h
  | a :: l, 0, x, h => by
    have e : a = x := by simpa using h
    subst e
    rw [List.flatMap_cons, Nat.zero_mul, List.drop_zero, List.take_append_of_le_length (by rw [hf]; exact Nat.le_refl _), List.take_of_length_le (by rw [hf]; exact Nat.le_refl _)]
  | a :: l, i + 1, x, h => by
    rw [List.flatMap_cons, Nat.succ_mul, List.drop_append, List.drop_of_length_le (by rw [hf]; omega), List.nil_append, hf, Nat.add_sub_cancel]
    exact flat_part hf l i x (by simpa using h)
theorem Own.appF {α : Type} {f : α → List Value} {e : TypeId} {sz n m : Nat} {v : Value} {a b : List α} {hs : List Hp} (H : Own e sz v (n + m) (a.flatMap f ++ b.flatMap f) hs) (hn : n = a.length := by rfl) (hm : m = b.length := by rfl) :
    Own e sz v (a ++ b).length ((a ++ b).flatMap f) hs := by
  subst hn hm
  rw [List.length_append, List.flatMap_append]; exact H
theorem sl_litF {α : Type} {f : α → List Value} {sz : Nat} {l : List α} {b : Nat} {c : Array Value} {T : TypeId} {g : Nat × Nat} {n : Nat} (hf : ∀ a, (f a).length = sz) (hc : c.toList = l.flatMap f) (hn : l.length = n) (hm : n ≤ 9223372036854775807) :
    Sl [Hp.one b (.cells c T g)] sz (.slice (some ⟨b, 0, none⟩) n n) l.length (l.flatMap f) := by
  subst hn
  exact ⟨_, _, rfl, Nat.le_refl _, hm, flat_len hf l, fun _ => ⟨b, 0, rfl, CellsAt.one (by rw [hc, List.drop_zero, List.take_length])⟩⟩
theorem one_flat {α : Type} {f : α → List Value} (h1 : ∀ a, ∀ u ∈ f a, u.oneCell' = true) (l : List α) : ∀ u ∈ l.flatMap f, u.oneCell' = true := fun u hu => by
  obtain ⟨a, _, h⟩ := List.mem_flatMap.1 hu
  exact h1 a u h
theorem CellsAt.field {L : List Hp} {b off k : Nat} {cs ds : List Value} (H : CellsAt L b off cs) (h : (cs.drop k).take ds.length = ds) : CellsAt L b (off + k) ds :=
  H.sub fun j v hv => by
    rw [← h, List.getElem?_take] at hv
    split at hv
    · rw [List.getElem?_drop] at hv; exact hv
    · cases hv
section ops
variable {P : Program} {ρ : Operand → Value} {E w : World} {ss : List (List Hp)} {K : Value → World → Prop} {dst : Option Tmp} {T : TypeId} {pos : String} {after : Array Edge} {g : Option (Nat × Bool)}
theorem o_indexF {α : Type} {f : α → List Value} {l : List α} {a : α} {x y : Operand} {t e : TypeId} {L : List Hp} {sz n by_ : Nat} {v z : Value} {k : IntKind} {i : Int} (hf : ∀ a, (f a).length = sz) (ht : P.underlying t = some (.slice e)) (hi : TI P e z sz by_)
    (hx : ρ x = v) (hs : Sl L sz v n (l.flatMap f)) (hn : n = l.length) (hy : ρ y = .int k i) (h0 : 0 ≤ i) (ha : l[i.toNat]? = some a) (hK : ∀ b off, CellsAt L b off (f a) → K (.pointer (some ⟨b, off, none⟩)) w) :
    OK P ⟨dst, .indexAddr t x y, T, pos, after, g⟩ ρ w K := by
  have hlt := (List.getElem?_eq_some_iff.1 ha).1
  refine o_indexAddr ht hi hx hs hy h0 (by omega) fun b off hc => hK b off ?_
  rw [flat_part hf l i.toNat a ha] at hc
  exact hc
end ops
/-- heaplets taken out one by one -/
def pickL : List Nat → List (List Hp) → List (List Hp)
  | [], _ => []
  | c :: cs, ss => match ss[c]? with | some s => s :: pickL cs (ss.eraseIdx c) | none => []
theorem pickL_sub : ∀ (cs : List Nat) (ss : List (List Hp)), ∃ rest, ss.Perm (pickL cs ss ++ rest)
  | [], ss => ⟨ss, List.Perm.refl _⟩
  | c :: cs, ss => by
    unfold pickL
    split
    · rename_i s hs
      obtain ⟨rest, h⟩ := pickL_sub cs (ss.eraseIdx c)
      have hf := perm_front c ss
      unfold Q.front at hf
      rw [hs] at hf
      exact ⟨rest, hf.symm.trans (by rw [List.cons_append]; exact h.cons s)⟩
    · exact ⟨ss, List.Perm.refl _⟩
theorem Has.pick {E w : World} {ss ts : List (List Hp)} (H : Has E w ss) (cs : List Nat) (h : pickL cs ss = ts) : Has E w ts := by
  subst h
  obtain ⟨rest, h⟩ := pickL_sub cs ss
  exact (H.perm h.symm).sub (List.sublist_append_left _ _)
/-- one cell of the front block, written -/
theorem Has.set1 {E w : World} {ss : List (List Hp)} {b off : Nat} {c : Array Value} {U : TypeId} {v : Value} (hlt : off < c.size) (H : Has E w ([Hp.one b (.cells c U (0, 0))] :: ss)) :
    Has E (w.setCell ⟨b, off, none⟩ v) ([Hp.one b (.cells (c.setIfInBounds off v) U (0, 0))] :: ss) := by
  have hwb : w.heap[b]? = some (.cells c U (0, 0)) := H.at (h := Hp.one b (.cells c U (0, 0))) (by simp) (Hp.one_at _ _)
  refine Has0.write (an := [Hp.one b (.cells c U (0, 0))]) (an' := [Hp.one b (.cells (c.setIfInBounds off v) U (0, 0))]) (hs := ss.flatten) H rfl rfl rfl (by simp) ?_ ?_ ?_
  · intro k hk
    have hk := hk _ (List.mem_singleton.2 rfl)
    refine .inl fun h hh => ?_
    rw [List.mem_singleton.1 hh]
    unfold Hp.one at hk ⊢
    split at hk
    · cases hk
    · rw [if_neg (by assumption)]
  · intro h hh k o hk
    rw [List.mem_singleton.1 hh] at hk
    obtain ⟨rfl, rfl⟩ := Hp.one_some hk
    simp only [World.setCell, Array.getElem?_modify]
    simp [hwb]
  · intro k _ hk
    have hk := hk _ (List.mem_singleton.2 rfl)
    have : k ≠ b := by rintro rfl; rw [Hp.one_at] at hk; cases hk
    simp only [World.setCell, Array.getElem?_modify]
    rw [if_neg (by omega)]
def setFrom (c : Array Value) (k : Nat) : List Value → Array Value
  | [] => c
  | v :: vs => setFrom (c.setIfInBounds k v) (k + 1) vs
theorem run_stores {P : Program} {E : World} {ss : List (List Hp)} {b off : Nat} {U : TypeId} : ∀ (vs : List Value) (i : Nat) (c : Array Value) (w : World), Has E w ([Hp.one b (.cells c U (0, 0))] :: ss) → off + i + vs.length ≤ c.size → (∀ v ∈ vs, v.oneCell' = true) →
    ∃ w', (storeCells ⟨b, off, none⟩ vs i).run P w = .ok () w' ∧ Has E w' ([Hp.one b (.cells (setFrom c (off + i) vs) U (0, 0))] :: ss)
  | [], i, c, w, H, _, _ => ⟨w, rfl, H⟩
  | v :: vs, i, c, w, H, hl, h1 => by
    have hlt : off + i < c.size := by simp only [List.length_cons] at hl; omega
    have hwb : w.heap[b]? = some (.cells c U (0, 0)) := H.at (h := Hp.one b (.cells c U (0, 0))) (by simp) (Hp.one_at _ _)
    have hcell : w.cell? ⟨b, off + i, none⟩ = some c[off + i] := by rw [cell_of_row w b (off + i) c U (0, 0) hwb]; simp [hlt]
    have hfz : w.frozen? ⟨b, off + i, none⟩ = false := by simp [World.frozen?, hwb]
    obtain ⟨w', hr, H'⟩ := run_stores (b := b) (off := off) (U := U) vs (i + 1) (c.setIfInBounds (off + i) v) (w.setCell ⟨b, off + i, none⟩ v) (H.set1 hlt) (by simp only [Array.size_setIfInBounds, List.length_cons] at hl ⊢; omega) (fun u hu => h1 u (List.mem_cons_of_mem _ hu))
    refine ⟨w', ?_, H'⟩
    have h1v := h1 v (List.mem_cons_self ..)
    simp only [storeCells, Sem.run_bind, add_lit, run_store P w ⟨b, off + i, none⟩ v .plain h1v, hcell, hfz]
    simpa using hr
section ops
variable {P : Program} {ρ : Operand → Value} {E w : World} {ss : List (List Hp)} {K : Value → World → Prop} {dst : Option Tmp} {T : TypeId} {pos : String} {after : Array Edge} {g : Option (Nat × Bool)}
theorem o_storeN {x y : Operand} {t : TypeId} {b off sz : Nat} {c c' : Array Value} {U : TypeId} {v z : Value} {vs : List Value} {by_ : Nat} (hi : TI P t z sz by_) (hx : ρ x = .pointer (some ⟨b, off, none⟩)) (hy : ρ y = v)
    (hv : v.cells = vs.toArray) (hn : vs.length = sz) (h1 : ∀ u ∈ vs, u.oneCell' = true) (hlt : off + sz ≤ c.size) (hc : setFrom c off vs = c') (H : Has E w ([Hp.one b (.cells c U (0, 0))] :: ss))
    (hK : ∀ w', Has E w' ([Hp.one b (.cells c' U (0, 0))] :: ss) → K undef w') : OK P ⟨dst, .store t x y, T, pos, after, g⟩ ρ w K := by
  obtain ⟨w', hr, H'⟩ := run_stores (P := P) (b := b) (off := off) (U := U) vs 0 c w H (by omega) h1
  refine OK.skip (w' := w') (run_u ?_) (hK _ (by rw [← hc]; exact H'))
  rw [hx, hy]
  simp only [Instr.storeAt, Instr.sureAddr, Sem.run_bind, Sem.run_pure, Result.andThen_ok, storeVar, hi.size, hv]
  simpa [hn] using hr
end ops
end Go.Q
namespace Go.Q
section ops
variable {P : Program} {ρ : Operand → Value} {E w : World} {ss : List (List Hp)} {K : Value → World → Prop} {dst : Option Tmp} {T : TypeId} {pos : String} {after : Array Edge} {g : Option (Nat × Bool)}
theorem o_makeFunc {f : FuncId} {cs : Array Operand} {vs : Array Value} (hv : cs.map ρ = vs) (hK : K (.func (.func f) #[] vs) w) : OK P ⟨dst, .makeFunc (.func f) #[] cs, T, pos, after, g⟩ ρ w K := by
  refine OK.val (w' := w) ?_ hK
  subst hv; simp [execOp, Instr.makeFunc]
variable {a b c : Operand} {u v x y : Value}
theorem cap1 (h1 : ρ a = u) : #[a].map ρ = #[u] := by simp [*]
theorem cap3 (h1 : ρ a = u) (h2 : ρ b = v) (h3 : ρ c = x) : #[a, b, c].map ρ = #[u, v, x] := by simp [*]
end ops
end Go.Q
namespace Go.Q
theorem flat_set {α : Type} {f : α → List Value} {sz : Nat} (hf : ∀ a, (f a).length = sz) : ∀ (l : List α) (i : Nat) (a : α), i < l.length → (l.set i a).flatMap f = (l.flatMap f).take (i * sz) ++ f a ++ (l.flatMap f).drop ((i + 1) * sz)
  | [], i, a, h => by simp at h
  | x :: l, 0, a, _ => by
    rw [List.set_cons_zero, List.flatMap_cons, List.flatMap_cons, Nat.zero_mul, List.take_zero, List.nil_append, Nat.zero_add, Nat.one_mul, ← hf x, List.drop_left]
  | x :: l, i + 1, a, h => by
    rw [List.set_cons_succ, List.flatMap_cons, List.flatMap_cons, flat_set hf l i a (by simpa using h)]
    have e1 : (f x ++ l.flatMap f).take ((i + 1) * sz) = f x ++ (l.flatMap f).take (i * sz) := by
      rw [Nat.succ_mul, Nat.add_comm, ← hf x, List.take_length_add_append]
    have e2 : (f x ++ l.flatMap f).drop ((i + 1 + 1) * sz) = (l.flatMap f).drop ((i + 1) * sz) := by
      rw [Nat.succ_mul, Nat.add_comm, ← hf x, List.drop_length_add_append]
    rw [e1, e2]; simp [List.append_assoc]
def OwnAtF (e : TypeId) (sz : Nat) (v : Value) (n : Nat) (cs : List Value) (hs : List Hp) (b : Nat) : Prop :=
  ∃ cap cur, v = .slice (some ⟨b, 0, none⟩) n cap ∧ hs = [Hp.one b (.cells cur e (0, 0))] ∧ n ≤ cap ∧ cap ≤ maxLen ∧ cur.size = cap * sz ∧ cur.toList.take (n * sz) = cs ∧ cs.length = n * sz
theorem OwnAtF.cells {e : TypeId} {sz n b : Nat} {v : Value} {hs : List Hp} {α : Type} {f : α → List Value} (hf : ∀ a, (f a).length = sz) {l : List α} (ho : OwnAtF e sz v n (l.flatMap f) hs b) {i : Nat} {a : α} (ha : l[i]? = some a) : CellsAt hs b (i * sz) (f a) := by
  obtain ⟨cap, cur, rfl, rfl, hnc, hcm, hsz, hc, hl⟩ := ho
  refine ⟨_, List.mem_singleton.2 rfl, cur, e, (0, 0), Hp.one_at _ _, fun j v hv => ?_⟩
  have h1 := flat_part hf l i a ha
  rw [← h1, List.getElem?_take] at hv
  split at hv
  · rw [List.getElem?_drop, ← hc, List.getElem?_take] at hv
    split at hv
    · simpa using hv
    · cases hv
  · cases hv
section ops
variable {P : Program} {ρ : Operand → Value} {E w : World} {ss : List (List Hp)} {K : Value → World → Prop} {dst : Option Tmp} {T : TypeId} {pos : String} {after : Array Edge} {g : Option (Nat × Bool)}
theorem o_ownAddrF {x y : Operand} {t e : TypeId} {hs : List Hp} {sz n by_ : Nat} {v z : Value} {cs : List Value} {k : IntKind} {i : Int} (ht : P.underlying t = some (.slice e)) (hi : TI P e z sz by_)
    (hx : ρ x = v) (ho : Own e sz v n cs hs) (hy : ρ y = .int k i) (h0 : 0 ≤ i) (h1 : i < n) (hK : ∀ b, OwnAtF e sz v n cs hs b → K (.pointer (some ⟨b, i.toNat * sz, none⟩)) w) :
    OK P ⟨dst, .indexAddr t x y, T, pos, after, g⟩ ρ w K := by
  obtain ⟨hl, ⟨rfl, h2, rfl⟩ | ⟨b, cap, cur, rfl, rfl, hnc, hcm, hsz, hc⟩⟩ := ho
  · omega
  · refine OK.val (run_v (v := .pointer (some ⟨b, i.toNat * sz, none⟩)) ?_) (hK b ⟨cap, cur, rfl, rfl, hnc, hcm, hsz, hc, hl⟩)
    rw [hx, hy]
    simp [Instr.indexAt, asIntOf, run_underlying ht, h0, h1, hi.size, add_lit]
/-- one cell of an element -/
theorem o_ownStoreC {α : Type} {f : α → List Value} {l : List α} {a a' : α} {x y : Operand} {t e : TypeId} {hs : List Hp} {sz n i k b by_ : Nat} {v u z : Value} (hf : ∀ a, (f a).length = sz) (hi : TI P t z 1 by_) (hx : ρ x = .pointer (some ⟨b, i * sz + k, none⟩)) (hy : ρ y = u)
    (hu : u.oneCell' = true) (hk : k < sz) (ha : l[i]? = some a) (ha' : (f a).set k u = f a') (ho : OwnAtF e sz v n (l.flatMap f) hs b) (hn : n = l.length) (H : Has E w (hs :: ss)) (hK : ∀ hs' w', Own e sz v (l.set i a').length ((l.set i a').flatMap f) hs' → Has E w' (hs' :: ss) → K undef w') :
    OK P ⟨dst, .store t x y, T, pos, after, g⟩ ρ w K := by
  subst hn
  obtain ⟨cap, cur, rfl, rfl, hnc, hcm, hsz, hc, hl⟩ := ho
  have hlt : i < l.length := (List.getElem?_eq_some_iff.1 ha).1
  have hle : i * sz + sz ≤ l.length * sz := by rw [← Nat.succ_mul]; exact Nat.mul_le_mul_right _ hlt
  have hcl : l.length * sz ≤ cur.size := by rw [hsz]; exact Nat.mul_le_mul_right _ hnc
  refine o_store1 (c' := cur.setIfInBounds (i * sz + k) u) hi hx hy hu (by omega) rfl H fun w' H' => hK _ w' ?_ H'
  rw [List.length_set]
  refine ⟨by rw [flat_len hf, List.length_set], .inr ⟨b, cap, _, rfl, rfl, hnc, hcm, by simpa using hsz, ?_⟩⟩
  rw [Array.toList_setIfInBounds, List.take_set, hc, flat_set hf l i a' hlt, ← ha', ← flat_part hf l i a ha]
  have hfl : (l.flatMap f).length = l.length * sz := flat_len hf l
  have hd : (l.flatMap f) = (l.flatMap f).take (i * sz) ++ (((l.flatMap f).drop (i * sz)).take sz ++ (l.flatMap f).drop ((i + 1) * sz)) := by
    rw [Nat.succ_mul, ← List.drop_drop, List.take_append_drop, List.take_append_drop]
  have l0 : ((l.flatMap f).take (i * sz)).length = i * sz := by rw [List.length_take, Nat.min_eq_left (by omega)]
  have l1 : (((l.flatMap f).drop (i * sz)).take sz).length = sz := by rw [List.length_take, List.length_drop, Nat.min_eq_left (by omega)]
  conv => lhs; rw [hd]
  rw [List.set_append_right _ _ (by omega), l0, Nat.add_sub_cancel_left, List.set_append_left _ _ (by omega), List.append_assoc]
end ops
end Go.Q
namespace Go.Q
end Go.Q
namespace Go.Q
end Go.Q
namespace Go.Q
/-- What a callback does beside other heaplets. -/
theorem Calls.frameF {P : Program} {f : FuncId} {args : Array Value} {E w : World} {R F : List Hp} {A : Ending → Prop} (h : Calls P f args w fun e w' => A e ∧ Has E w' [([R, F] : List (List Hp)).flatten]) : Calls P f args w fun e w' => A e ∧ Has E w' [R, F] :=
  h.mono fun e w' ⟨ha, hh⟩ => ⟨ha, hh.of_all⟩
theorem cb_more {P : Program} {f : FuncId} {α : Type} {va : α → Array Value} {A : α → Ending → Prop} {E : World} {R G : List Hp} (h : ∀ {w : World} (F : List Hp) (x : α), Has E w [R, F] → Calls P f (va x) w fun e w' => A x e ∧ Has E w' [R, F]) :
    ∀ {w : World} (F : List Hp) (x : α), Has E w [R ++ G, F] → Calls P f (va x) w fun e w' => A x e ∧ Has E w' [R ++ G, F] := fun {w} F x H => by
  have H2 := show Has E w [R, G ++ F] by unfold Has at *; simpa using H
  refine (h (G ++ F) x H2).mono fun e w' ⟨ha, hh⟩ => ⟨ha, ?_⟩
  unfold Has at *; simpa using hh
/-- slices.IndexFunc -/
def idxG {α : Type} (c : α → Bool) (l : List α) : Int := match l.findIdx? c with
  | some i => (i : Int)
  | none => -1
theorem idxG_none {α : Type} {c : α → Bool} {l : List α} (h : ∀ (j : Nat) (x : α), l[j]? = some x → c x = false) : idxG c l = -1 := by
  unfold idxG
  rw [List.findIdx?_eq_none_iff.2 fun x hx => by
    obtain ⟨j, hj⟩ := List.getElem?_of_mem hx
    exact h j x hj]
theorem idxG_some {α : Type} {c : α → Bool} {l : List α} {k : Nat} {x : α} (h : ∀ j, j < k → ∀ y, l[j]? = some y → c y = false) (hx : l[k]? = some x) (e : c x = true) : idxG c l = (k : Int) := by
  unfold idxG
  obtain ⟨hlt, hk⟩ := List.getElem?_eq_some_iff.1 hx
  rw [List.findIdx?_eq_some_iff_getElem.2 ⟨hlt, by rw [hk]; exact e, fun j hj => by
    have := h j hj l[j] (List.getElem?_eq_getElem (by omega))
    simpa using this⟩]
theorem idxG_any {α : Type} {c : α → Bool} {l : List α} : decide (0 ≤ idxG c l) = l.any c := by
  unfold idxG
  cases h : l.findIdx? c with
  | none => simp [List.findIdx?_eq_none_iff.1 h]; intro x hx; exact List.findIdx?_eq_none_iff.1 h x hx
  | some i =>
    obtain ⟨hlt, hc, _⟩ := List.findIdx?_eq_some_iff_getElem.1 h
    have : l.any c = true := List.any_eq_true.2 ⟨l[i], List.getElem_mem hlt, hc⟩
    rw [this]; simp
theorem argsG1 {ρ : Operand → Value} {x : Operand} {v : Value} {first cap : Array Value} (h : ρ x = v) : first ++ #[x].map ρ ++ cap = first ++ #[v] ++ cap := by simp [h]
/-! slices.DeleteFunc: the plain law -/
section
variable {α : Type} {c : α → Bool} {l lw : List α} {i j : Nat} {x : α}
end
end Go.Q
namespace Go.Q
end Go.Q
namespace Go.Q
end Go.Q
namespace Go.Q
end Go.Q
namespace Go.Q
end Go.Q
namespace Go.Q
def vlC (v : Bool × Bs) : List Value := [.bool v.1, S v.2]
theorem vlC_len (v : Bool × Bs) : (vlC v).length = 2 := rfl
def notP {α : Type} (c : α → Bool) (x : α) : Bool := !c x
theorem any_notP {α : Type} (c : α → Bool) (l : List α) : (!(l.any (notP c))) = l.all c := by
  induction l with
  | nil => rfl
  | cons x t ih => rw [List.any_cons, List.all_cons, ← ih, notP]; cases c x <;> simp
def keyR (k : Bs) : Bool := decide (k ≠ []) && decide ((k.length : Int) ≤ 8)
def valR (v : Bool × Bs) : Bool := decide ((v.2.length : Int) ≤ 16) && (v.1 || decide (v.2 = []))
end Go.Q
namespace Go.Q
theorem cb_mid {P : Program} {f : FuncId} {α : Type} {va : α → Array Value} {A : α → Ending → Prop} {E : World} {X R F : List Hp} (h : ∀ {w : World} (F : List Hp) (x : α), Has E w [R, F] → Calls P f (va x) w fun e w' => A x e ∧ Has E w' [R, F]) :
    ∀ {w : World} (F' : List Hp) (x : α), Has E w [[[X, R].flatten, F].flatten, F'] → Calls P f (va x) w fun e w' => A x e ∧ Has E w' [[[X, R].flatten, F].flatten, F'] := fun {w} F' x H => by
  have H2 : Has E w [R, X ++ F ++ F'] := by
    have H3 : Has E w [X, R, F, F'] := by unfold Has at *; simpa using H
    have H4 : Has E w [R, X, F, F'] := H3.front 1 rfl
    unfold Has at *; simpa using H4
  refine (h (X ++ F ++ F') x H2).mono fun e w' ⟨ha, hh⟩ => ⟨ha, ?_⟩
  have H4 : Has E w' [R, X, F, F'] := by unfold Has at *; simpa using hh
  have H3 : Has E w' [X, R, F, F'] := H4.front 1 rfl
  unfold Has at *; simpa using H3
end Go.Q
namespace Go.Q
/-- what the operations have yielded -/
def vsOf (ops : List Oper) (r : Nat → Value) : Nat → Value := fun j => match ops[j]? with | some o => slot r o | none => undef
/-- what those ahead of i have yielded -/
def msk (ops : List Oper) (i : Nat) (vs : Nat → Value) : Nat → Value := fun j => if anc ops ops.length i j = true then vs j else undef
/-- What an operation of the region is handed when its turn comes. -/
structure Turn2 (E : World) (ops : List Oper) (F : List (List Hp)) (C : Nat → List Hp) (Tp : Nat → Value → List Hp → (Nat → Value) → Prop) (N : Nat) (r : Nat → Value) (i : Nat) (r' : Nat → Value) (w : World) (G : List (List Hp)) (hs : Nat → List Hp) : Prop where
  has : Has E w (C i :: G)
  fr : ∀ s ∈ F, s ⊆ G.flatten
  done : ∀ j o, ops[j]? = some o → anc ops ops.length i j = true → Tp j (slot r' o) (hs j) (msk ops j (vsOf ops r')) ∧ hs j ⊆ G.flatten
  todo : ∀ j, anc ops ops.length j i = true → C j ⊆ G.flatten
  old : ∀ t, (∀ j o, ops[j]? = some o → o.dst = some t → j = i ∨ anc ops ops.length j i = true) → r' t = r t
  each : ∀ j o, ops[j]? = some o → j ≠ i → C j ⊆ G.flatten ∨ (∃ v m, Tp j v (hs j) m) ∧ hs j ⊆ G.flatten

theorem Turn2.was {E : World} {ops : List Oper} {F : List (List Hp)} {C : Nat → List Hp} {Tp : Nat → Value → List Hp → (Nat → Value) → Prop} {N : Nat} {r : Nat → Value} {i : Nat} {r' : Nat → Value} {w : World} {G : List (List Hp)} {hs : Nat → List Hp}
    (H : Turn2 E ops F C Tp N r i r' w G hs) (t : Nat) (h : oldB ops i t = true) : r' t = r t := by
  refine H.old t fun j o ho hd => ?_
  unfold oldB at h
  rw [List.all_eq_true] at h
  have := h j (List.mem_range.2 (List.getElem?_eq_some_iff.1 ho).1)
  simp only [ho, Bool.or_eq_true, bne_iff_ne, beq_iff_eq] at this
  rcases this with (h | h) | h
  · exact absurd hd h
  · exact .inl h
  · exact .inr h
end Go.Q
namespace Go.Q
/-- Is a region of that make: each slot written once, all edges lead back? -/
def flowOk3 (ops : List Oper) : Bool :=
  ((List.range ops.length).all fun i => match ops[i]? with
    | some o => (depsOf ops i).all (fun d => decide (d < i)) && (List.range ops.length).all fun j => j == i || match ops[j]? with
      | some o' => o.dst.isNone || o'.dst != o.dst
      | none => true
    | none => true)
theorem flowOk3_spec {ops : List Oper} (h : flowOk3 ops = true) {i : Nat} {o : Oper} (ho : ops[i]? = some o) :
    (∀ d ∈ depsOf ops i, d < i) ∧ ∀ j o' t, ops[j]? = some o' → j ≠ i → o.dst = some t → o'.dst ≠ some t := by
  unfold flowOk3 at h
  rw [List.all_eq_true] at h
  have hi : i < ops.length := (List.getElem?_eq_some_iff.1 ho).1
  have h1 := h i (List.mem_range.2 hi)
  simp only [ho, Bool.and_eq_true, List.all_eq_true, decide_eq_true_eq] at h1
  obtain ⟨hd, hj⟩ := h1
  refine ⟨hd, fun j o' t hj' hne ht => ?_⟩
  have := hj j (List.mem_range.2 (List.getElem?_eq_some_iff.1 hj').1)
  simp only [hj', ht, Option.isNone_some, Bool.false_or, Bool.or_eq_true, beq_iff_eq, bne_iff_ne] at this
  rcases this with h | h
  · exact absurd h hne
  · exact h

theorem anc_trans3 {ops : List Oper} (_h : flowOk3 ops = true) {listed : Array Bool} (hc : ∀ i, listed.getD i false = true → ∀ d ∈ depsOf ops i, listed.getD d false = true) :
    ∀ f i j, anc ops f i j = true → (∀ d ∈ depsOf ops i, listed.getD d false = true) → listed.getD j false = true := by
  intro f
  induction f with
  | zero => intro i j h; simp [anc] at h
  | succ f ih =>
    intro i j h hd
    rw [anc, List.any_eq_true] at h
    obtain ⟨d, hdm, hh⟩ := h
    rw [Bool.or_eq_true] at hh
    rcases hh with e | e
    · rw [← beq_iff_eq.1 e]; exact hd d hdm
    · exact ih d j e (hc d (hd d hdm))

/-- An operation of a region, under its guard. -/
def GOK (P : Program) (ops : List Oper) (o : Oper) (N : Nat) (r : Nat → Value) (w : World) (K : Value → World → Prop) : Prop := match o.guard with
  | none => OK P o (ev N r) w K
  | some (g, b) => ∃ t, dstOf ops g = some t ∧ (ev N r (.tmp t) = .bool b ∧ OK P o (ev N r) w K ∨ ((∃ b', ev N r (.tmp t) = .bool b' ∧ (b' == b) = false) ∨ ev N r (.tmp t) = undef) ∧ K undef w)
theorem GOK.on {P : Program} {ops : List Oper} {o : Oper} {N : Nat} {r : Nat → Value} {w : World} {K : Value → World → Prop} {g t : Nat} {b : Bool} (hg : o.guard = some (g, b)) (ht : dstOf ops g = some t) (hv : ev N r (.tmp t) = .bool b) (h : OK P o (ev N r) w K) : GOK P ops o N r w K := by
  unfold GOK; rw [hg]; exact ⟨t, ht, .inl ⟨hv, h⟩⟩
theorem GOK.off {P : Program} {ops : List Oper} {o : Oper} {N : Nat} {r : Nat → Value} {w : World} {K : Value → World → Prop} {g t : Nat} {b b' : Bool} (hg : o.guard = some (g, b)) (ht : dstOf ops g = some t) (hv : ev N r (.tmp t) = .bool b') (hne : (b' == b) = false) (h : K undef w) : GOK P ops o N r w K := by
  unfold GOK; rw [hg]; exact ⟨t, ht, .inr ⟨.inl ⟨b', hv, hne⟩, h⟩⟩
theorem GOK.offu {P : Program} {ops : List Oper} {o : Oper} {N : Nat} {r : Nat → Value} {w : World} {K : Value → World → Prop} {g t : Nat} {b : Bool} (hg : o.guard = some (g, b)) (ht : dstOf ops g = some t) (hv : ev N r (.tmp t) = undef) (h : K undef w) : GOK P ops o N r w K := by
  unfold GOK; rw [hg]; exact ⟨t, ht, .inr ⟨.inr hv, h⟩⟩
theorem GOK.free {P : Program} {ops : List Oper} {o : Oper} {N : Nat} {r : Nat → Value} {w : World} {K : Value → World → Prop} (hg : o.guard = none) (h : OK P o (ev N r) w K) : GOK P ops o N r w K := by
  unfold GOK; rw [hg]; exact h
theorem GOK.wp {P : Program} {ops : List Oper} {Q : Exit → Act → World → Prop} {o : Oper} {N i : Nat} {r : Nat → Value} {w : World} {K : Value → World → Prop} {K' : Act → World → Prop} (ho : ops.toArray[i]? = some o) (h : GOK P ops o N r w K)
    (hK : ∀ v w'', K v w'' → K' ((Go.Q.fr N r).put o.dst v) w'') : wpOp P ops.toArray Q i K' (Go.Q.fr N r) w := by
  unfold wpOp
  simp only [ho]
  obtain ⟨d, op, T, pos, after, gd⟩ := o
  unfold GOK at h
  cases gd with
  | none =>
    rw [if_pos (by simp [Region.wanted])]
    refine .inl (OK.wp ?_)
    rw [fr_eval]
    exact OK.mono h fun v w'' hk => hK v w'' hk
  | some gb =>
    obtain ⟨g, b⟩ := gb
    obtain ⟨t, ht, h⟩ := h
    obtain ⟨og, hg, ht⟩ := dstOf_spec ops g ht
    rcases h with ⟨hv, h⟩ | ⟨⟨b', hv, hne⟩ | hv, h⟩
    · rw [if_pos (by rw [wanted_fr hg ht hv]; simp)]
      refine .inl (OK.wp ?_)
      rw [fr_eval]
      exact OK.mono h fun v w'' hk => hK v w'' hk
    · rw [if_neg (by rw [wanted_fr hg ht hv, hne]; simp)]
      exact hK _ _ h
    · have hy : yielded ops.toArray (Go.Q.fr N r).tmps g = none := by
        simp only [yielded, hg, ht, Option.bind_some, fr_at]
        by_cases h : t < N
        · have hb : Nat.blt t N = true := by simpa using h
          simp only [ev, hb] at hv
          have hv' : r t = undef := hv
          rw [if_pos h, hv']; rfl
        · rw [if_neg h]
      rw [if_neg (by simp [Region.wanted, hy])]
      exact hK _ _ h
theorem msk_upd3 {ops : List Oper} {i j d : Nat} {o : Oper} {r : Nat → Value} {v : Value} (hok : flowOk3 ops = true) (ho : ops[i]? = some o) (hd : o.dst = some d) (h : ∀ k, anc ops ops.length j k = true → k ≠ i) :
    msk ops j (vsOf ops (upd r d v)) = msk ops j (vsOf ops r) := by
  funext k
  unfold msk
  split
  · rename_i hk
    unfold vsOf
    cases hok' : ops[k]? with
    | none => rfl
    | some ok =>
      have hne : ok.dst ≠ some d := (flowOk3_spec hok ho).2 k ok d hok' (h k hk) hd
      show slot (upd r d v) ok = slot r ok
      unfold slot
      cases hdk : ok.dst with
      | none => rfl
      | some t => exact upd_ne _ _ (fun e => hne (hdk.trans (congrArg some e)))
  · rfl
/-- What an operation of the region is handed when its turn comes. -/
structure Turn3 (E : World) (ops : List Oper) (F : List (List Hp)) (C : Nat → List Hp) (Tp : Nat → Value → List Hp → (Nat → Value) → Prop) (N : Nat) (r : Nat → Value) (i : Nat) (r' : Nat → Value) (w : World) (G : List (List Hp)) (hs : Nat → List Hp) : Prop where
  has : Has E w (C i :: G)
  fr : ∀ s ∈ F, s ⊆ G.flatten
  done : ∀ j o, ops[j]? = some o → anc ops ops.length i j = true → Tp j (slot r' o) (hs j) (msk ops j (vsOf ops r')) ∧ hs j ⊆ G.flatten
  todo : ∀ j, anc ops ops.length j i = true → C j ⊆ G.flatten
  old : ∀ t, (∀ j o, ops[j]? = some o → o.dst = some t → j = i ∨ anc ops ops.length j i = true) → r' t = r t
  each : ∀ j o, ops[j]? = some o → j ≠ i → C j ⊆ G.flatten ∨ (∃ v m, Tp j v (hs j) m) ∧ hs j ⊆ G.flatten

theorem Turn3.was {E : World} {ops : List Oper} {F : List (List Hp)} {C : Nat → List Hp} {Tp : Nat → Value → List Hp → (Nat → Value) → Prop} {N : Nat} {r : Nat → Value} {i : Nat} {r' : Nat → Value} {w : World} {G : List (List Hp)} {hs : Nat → List Hp}
    (H : Turn3 E ops F C Tp N r i r' w G hs) (t : Nat) (h : oldB ops i t = true) : r' t = r t := by
  refine H.old t fun j o ho hd => ?_
  unfold oldB at h
  rw [List.all_eq_true] at h
  have := h j (List.mem_range.2 (List.getElem?_eq_some_iff.1 ho).1)
  simp only [ho, Bool.or_eq_true, bne_iff_ne, beq_iff_eq] at this
  rcases this with (h | h) | h
  · exact absurd hd h
  · exact .inl h
  · exact .inr h
end Go.Q
namespace Go.Q
/-- From m on each operation comes behind all that are ahead of it. -/
def seqB (ops : List Oper) (m : Nat) : Bool := (List.range' m (ops.length - m)).all fun i => (List.range i).all fun j => anc ops ops.length i j
theorem seqB_spec {ops : List Oper} {m : Nat} (h : seqB ops m = true) : ∀ i j, m ≤ i → i < ops.length → j < i → anc ops ops.length i j = true := fun i j h1 h2 h3 => by
  unfold seqB at h
  rw [List.all_eq_true] at h
  have := h i (List.mem_range'_1.2 (by omega))
  rw [List.all_eq_true] at this
  exact this j (List.mem_range.2 h3)
theorem seq_any {P : Program} {Q : Exit → Act → World → Prop} {ops : List Oper} (hok : flowOk3 ops = true) : ∀ (n k : Nat) (listed : Array Bool) (a : Act) (w : World), k + n = ops.length → listed.size = ops.length → (∀ i, i < k → listed.getD i false = true) → (∀ i, k ≤ i → listed.getD i false = false) →
    (∀ i j, k ≤ i → i < ops.length → j < i → anc ops ops.length i j = true) → wpOps P ops.toArray Q (List.range' k n) a w → ∀ fuel, n ≤ fuel → wpAny P .any ops.toArray Q fuel listed a w
  | 0, k, listed, a, w, hk, hsz, hall, hnot, hsq, h, fuel, hf => by
    have hr : Region.ready .any ops.toArray listed = [] := by
      rw [List.eq_nil_iff_forall_not_mem]
      intro i hi
      obtain ⟨h0, o, ho, _⟩ := mem_ready.1 hi
      have hlt : i < ops.length := by simpa using (Array.getElem?_eq_some_iff.1 ho).1
      have h1 := hall i (by omega)
      have hs : i < listed.size := by omega
      simp [hs] at h0 h1; rw [h0] at h1; cases h1
    cases fuel with
    | zero => exact ⟨hr, h⟩
    | succ f => exact ⟨fun _ => h, fun i hi => by rw [hr] at hi; cases hi⟩
  | n + 1, k, listed, a, w, hk, hsz, hall, hnot, hsq, h, fuel, hf => by
    obtain ⟨f, rfl⟩ : ∃ f, fuel = f + 1 := ⟨fuel - 1, by omega⟩
    have hlk : k < ops.length := by omega
    have hcl : ∀ i, listed.getD i false = true → ∀ d ∈ depsOf ops i, listed.getD d false = true := fun i hi d hd => by
      have hik : i < k := by
        rcases Nat.lt_or_ge i k with g | g
        · exact g
        · rw [hnot i g] at hi; cases hi
      have := (flowOk3_spec hok (List.getElem?_eq_getElem (show i < ops.length by omega))).1 d hd
      exact hall d (by omega)
    have hkr : k ∈ Region.ready .any ops.toArray listed := by
      refine mem_ready.2 ⟨?_, ops[k], by simp [hlk], fun e he hb => ?_⟩
      · have h1 := hnot k (Nat.le_refl _)
        have hs : k < listed.size := by omega
        simp [hs] at h1 ⊢; exact h1
      · have hd := mem_depsOf (List.getElem?_eq_getElem hlk) he hb
        exact hall _ ((flowOk3_spec hok (List.getElem?_eq_getElem hlk)).1 _ hd)
    refine ⟨fun hr => (by rw [hr] at hkr; cases hkr), fun i hi => ?_⟩
    obtain ⟨h0, o, ho, hdone⟩ := mem_ready.1 hi
    have hlt : i < ops.length := by simpa using (Array.getElem?_eq_some_iff.1 ho).1
    have hli : listed.getD i false = false := by
      have hs : i < listed.size := by omega
      simp [hs] at h0 ⊢; exact h0
    have hdeps : ∀ d ∈ depsOf ops i, listed.getD d false = true := by
      intro d hd
      unfold depsOf at hd
      rw [show ops[i]? = some o by simpa using ho] at hd
      obtain ⟨e, he, heq⟩ := List.mem_filterMap.1 hd
      split at heq
      · cases heq; exact hdone e (by simpa using he) (by assumption)
      · cases heq
    have hik : i = k := by
      rcases Nat.lt_trichotomy i k with g | g | g
      · rw [hall i g] at hli; cases hli
      · exact g
      · have := anc_trans3 hok hcl _ i k (hsq i k (by omega) hlt g) hdeps
        rw [hnot k (Nat.le_refl _)] at this; cases this
    subst hik
    rw [List.range'_succ, wpOps_cons] at h
    refine wpOp_mono (fun a' w' h' => ?_) h
    refine seq_any hok n (i + 1) _ a' w' (by omega) (by simpa using hsz) (fun j hj => ?_) (fun j hj => ?_) (fun j l h1 h2 h3 => hsq j l (by omega) h2 h3) h' f (by omega)
    · by_cases e : i = j
      · subst e
        have : i < listed.size := by omega
        simp [this]
      · rw [getD_set_ne false e]; exact hall j (by omega)
    · rw [getD_set_ne false (show i ≠ j by omega)]; exact hnot j (by omega)
theorem c_flow4 {P : Program} {Q : Exit → Act → World → Prop} {E w : World} {N : Nat} {r : Nat → Value} {id : Nat} {ops : List Oper} (F : List (List Hp)) (C : Nat → List Hp) (Tp : Nat → Value → List Hp → (Nat → Value) → Prop)
    (hm : P.follows .mixedOrders = true) (m : Nat) (hok : flowOk3 ops = true) (hml : m ≤ ops.length) (hsqb : seqB ops m = true) (H : Has E w (F ++ (List.range ops.length).map C))
    (step : ∀ i o, i < m → ops[i]? = some o → ∀ r' w' G hs, Turn3 E ops F C Tp N r i r' w' G hs → GOK P ops o N r' w' fun v w'' => ∃ h', Tp i (match o.dst with | some _ => v | none => undef) h' (msk ops i (vsOf ops r')) ∧ Has E w'' (h' :: G))
    (fin : ∀ (vs : Nat → Value) (hs : Nat → List Hp) w', (∀ i o, i < m → ops[i]? = some o → Tp i (vs i) (hs i) (msk ops i vs)) → (∀ i, m ≤ i → i < ops.length → hs i = C i) → Has E w' (F ++ (List.range ops.length).map hs) → wpList P ops.toArray Q (ops.drop m) (Go.Q.fr N (puts vs (ops.take m) 0 r)) w') :
    (Code.region id ops.toArray true).wp P Q (Go.Q.fr N r) w := by
  have hsq := seqB_spec hsqb
  refine wp_region_any hm ?_
  -- the state while some are done
  let Inv : Array Bool → Act → World → Prop := fun listed a w => listed.size = ops.length ∧ (∀ i, m ≤ i → listed.getD i false = false) ∧ (∀ i, listed.getD i false = true → ∀ d ∈ depsOf ops i, listed.getD d false = true) ∧
    ∃ r' hs, a = Go.Q.fr N r' ∧ Has E w (F ++ (List.range ops.length).map hs) ∧ (∀ i o, ops[i]? = some o → if listed.getD i false = true then o.dst.isSome = true ∧ Tp i (slot r' o) (hs i) (msk ops i (vsOf ops r')) ∨ o.dst = none ∧ Tp i undef (hs i) (msk ops i (vsOf ops r')) else hs i = C i) ∧
    (∀ t, (∀ i o, ops[i]? = some o → o.dst = some t → listed.getD i false = false) → r' t = r t)
  have key : ∀ fuel listed a w, Inv listed a w → (List.range ops.length).countP (fun i => !listed.getD i false) ≤ fuel → wpAny P .any ops.toArray Q fuel listed a w := by
    have ready0 : ∀ listed : Array Bool, listed.size = ops.length → Region.ready .any ops.toArray listed = [] → ∀ i, i < ops.length → listed.getD i false = true := by
      intro listed hsz hr i
      induction i using Nat.strongRecOn with
      | _ i ih =>
        intro hi
        cases hl : listed.getD i false with
        | true => rfl
        | false =>
          exfalso
          obtain ⟨o, ho⟩ : ∃ o, ops[i]? = some o := ⟨_, List.getElem?_eq_getElem hi⟩
          have : i ∈ Region.ready .any ops.toArray listed := by
            refine mem_ready.2 ⟨?_, o, by simpa using ho, fun e he hb => ?_⟩
            · have : i < listed.size := by omega
              simp [this] at hl ⊢; exact hl
            · have hd := mem_depsOf ho he hb
              have hlt := (flowOk3_spec hok ho).1 _ hd
              exact ih _ hlt (by omega)
          rw [hr] at this; cases this
    have fin' : ∀ fuel listed a w, Inv listed a w → (List.range ops.length).countP (fun i => !listed.getD i false) ≤ fuel → (∀ i, i < m → listed.getD i false = true) → wpAny P .any ops.toArray Q fuel listed a w := by
      rintro fuel listed a w ⟨hsz, hnot, _, r', hs, rfl, hH, hT, hold⟩ hc hall
      let vs : Nat → Value := vsOf ops r'
      have htk : ∀ j o', (ops.take m)[j]? = some o' → ops[j]? = some o' ∧ j < m := fun j o' hj => by
        rw [List.getElem?_take] at hj
        split at hj
        · exact ⟨hj, by assumption⟩
        · cases hj
      have e : Go.Q.fr N r' = Go.Q.fr N (puts vs (ops.take m) 0 r) := by
        refine fr_congr fun t _ => ?_
        by_cases hex : ∃ (i : Nat) (o : Oper), (ops.take m)[i]? = some o ∧ o.dst = some t
        · obtain ⟨i, o, ho, hd⟩ := hex
          rw [puts_new vs (ops.take m) 0 i r o t ho hd (fun j o' hj hne => (flowOk3_spec hok (htk i o ho).1).2 j o' t (htk j o' hj).1 hne hd)]
          simp [vs, vsOf, (htk i o ho).1, slot, hd]
        · rw [puts_old vs (ops.take m) 0 r t (fun o ho hd => by obtain ⟨j, hj⟩ := List.getElem?_of_mem ho; exact hex ⟨j, o, hj, hd⟩)]
          refine hold t (fun i o ho hd => ?_)
          rcases Nat.lt_or_ge i m with g | g
          · exact absurd ⟨i, o, by rw [List.getElem?_take, if_pos g]; exact ho, hd⟩ hex
          · exact hnot i g
      have hw := fin vs hs w (fun i o hi ho => by
        have := hT i o ho
        rw [if_pos (hall i hi)] at this
        have hvs : vs i = slot r' o := by simp only [vs, vsOf, ho]
        rw [hvs]
        rcases this with ⟨_, h⟩ | ⟨hn, h⟩
        · exact h
        · unfold slot; rw [hn]; exact h) (fun i hi hl => by
        have := hT i _ (List.getElem?_eq_getElem hl)
        rw [if_neg (by rw [hnot i hi]; simp)] at this; exact this) hH
      rw [← e] at hw
      have hcount : ops.length - m ≤ (List.range ops.length).countP (fun i => !listed.getD i false) := by
        have : List.range ops.length = List.range m ++ List.range' m (ops.length - m) := by
          have := List.range'_append_1 (s := 0) (m := m) (n := ops.length - m)
          rw [Nat.zero_add] at this
          rw [List.range_eq_range', List.range_eq_range', this]; congr 1; omega
        rw [this, List.countP_append]
        have h2 : (List.range' m (ops.length - m)).countP (fun i => !listed.getD i false) = (List.range' m (ops.length - m)).length := by
          rw [List.countP_eq_length]
          intro i hi
          rw [hnot i (by have := List.mem_range'_1.1 hi; omega)]; rfl
        rw [h2, List.length_range']; omega
      refine seq_any hok (ops.length - m) m listed _ w (by omega) hsz hall hnot hsq ?_ fuel (by omega)
      have := wpOps_eq_wpList (P := P) (Q := Q) (ops := ops.toArray) (ops.drop m) m (fun j => by simp)
      rw [List.length_drop] at this
      rw [this]; exact hw
    intro fuel
    induction fuel with
    | zero =>
      intro listed a w hI hc
      refine fin' 0 listed a w hI hc fun i hi => ?_
      cases hl : listed.getD i false with
      | true => rfl
      | false =>
        have hp : 0 < (List.range ops.length).countP (fun i => !listed.getD i false) := List.countP_pos_iff.2 ⟨i, List.mem_range.2 (by omega), by rw [hl]; rfl⟩
        omega
    | succ fuel ih =>
      intro listed a w hI hc
      by_cases hall : ∀ i, i < m → listed.getD i false = true
      · exact fin' _ listed a w hI hc hall
      refine ⟨fun hr => absurd (fun i hi => ready0 listed hI.1 hr i (by omega)) hall, fun i hi => ?_⟩
      obtain ⟨hsz, hnot, hcl, r', hs, rfl, hH, hT, hold⟩ := hI
      obtain ⟨h0, o, ho', hdone⟩ := mem_ready.1 hi
      have ho : ops[i]? = some o := by simpa using ho'
      have hlt : i < ops.length := (List.getElem?_eq_some_iff.1 ho).1
      have hli : listed.getD i false = false := by
        have hs : i < listed.size := by omega
        simp [hs] at h0 ⊢; exact h0
      obtain ⟨hdlt, hdist⟩ := flowOk3_spec hok ho
      have hdeps : ∀ d ∈ depsOf ops i, listed.getD d false = true := by
        intro d hd
        unfold depsOf at hd
        rw [ho] at hd
        obtain ⟨e, he, heq⟩ := List.mem_filterMap.1 hd
        split at heq
        · cases heq; exact hdone e (by simpa using he) (by assumption)
        · cases heq
      have him : i < m := by
        rcases Nat.lt_or_ge i m with g | g
        · exact g
        · exact absurd (fun j hj => anc_trans3 hok hcl _ i j (hsq i j g hlt (by omega)) hdeps) hall
      -- the heaplets: the one at i in front
      let G : List (List Hp) := F ++ ((List.range i).map hs ++ (List.range' (i + 1) (ops.length - (i + 1))).map hs)
      have hsplit : List.range ops.length = List.range i ++ i :: List.range' (i + 1) (ops.length - (i + 1)) := by
        rw [List.range_eq_range', List.range_eq_range', show i :: List.range' (i + 1) (ops.length - (i + 1)) = List.range' i (ops.length - i) from by
          rw [show ops.length - i = (ops.length - (i + 1)) + 1 by omega, List.range'_succ]]
        have := List.range'_append_1 (s := 0) (m := i) (n := ops.length - i)
        rw [Nat.zero_add] at this
        rw [this]; congr 1; omega
      have mapsplit : ∀ f : Nat → List Hp, (List.range ops.length).map f = (List.range i).map f ++ f i :: (List.range' (i + 1) (ops.length - (i + 1))).map f := by
        intro f; rw [hsplit]; simp
      have hperm : ∀ f : Nat → List Hp, (F ++ (List.range ops.length).map f).Perm (f i :: (F ++ ((List.range i).map f ++ (List.range' (i + 1) (ops.length - (i + 1))).map f))) := by
        intro f
        rw [mapsplit f, ← List.append_assoc, ← List.append_assoc]
        exact List.perm_middle
      have hhi : hs i = C i := by have := hT i o ho; rw [if_neg (by rw [hli]; simp)] at this; exact this
      have inG : ∀ j, j < ops.length → j ≠ i → hs j ∈ G := by
        intro j hj hne
        refine List.mem_append_right _ ?_
        rcases Nat.lt_or_gt_of_ne hne with h | h
        · exact List.mem_append_left _ (List.mem_map.2 ⟨j, List.mem_range.2 h, rfl⟩)
        · exact List.mem_append_right _ (List.mem_map.2 ⟨j, by rw [List.mem_range'_1]; omega, rfl⟩)
      have subG : ∀ s ∈ G, s ⊆ G.flatten := fun s hs' x hx => List.mem_flatten.2 ⟨s, hs', hx⟩
      have ancNe : ∀ j, listed.getD j false = true → j ≠ i := fun j hj e => by rw [e, hli] at hj; cases hj
      have turn : Turn3 E ops F C Tp N r i r' w G hs := by
        refine ⟨?_, fun s hs' => subG s (List.mem_append_left _ hs'), fun j oj hoj hanc => ?_, fun j hanc => ?_, fun t ht => ?_, fun j oj hoj hne => ?_⟩
        · rw [← hhi]; exact hH.perm (hperm hs).symm
        · have hl := anc_trans3 hok hcl _ i j hanc hdeps
          refine ⟨?_, subG _ (inG j (List.getElem?_eq_some_iff.1 hoj).1 (ancNe j hl))⟩
          have := hT j oj hoj
          rw [if_pos hl] at this
          rcases this with ⟨_, h⟩ | ⟨hn, h⟩
          · exact h
          · unfold slot; rw [hn]; exact h
        · cases hj : ops[j]? with
          | none =>
            exfalso
            unfold anc at hanc
            split at hanc
            · cases hanc
            · simp [depsOf, hj] at hanc
          | some oj =>
            have hnl : listed.getD j false = false := by
              cases hl : listed.getD j false with
              | false => rfl
              | true =>
                have := anc_trans3 hok hcl _ j i hanc (hcl j hl)
                rw [hli] at this; cases this
            have hjl := (List.getElem?_eq_some_iff.1 hj).1
            have hne : j ≠ i := by
              rintro rfl
              have := anc_trans3 hok hcl _ j j hanc hdeps
              rw [hli] at this; cases this
            have := hT j oj hj
            rw [if_neg (by rw [hnl]; simp)] at this
            rw [← this]; exact subG _ (inG j hjl hne)
        · refine hold t (fun j oj hoj hd => ?_)
          rcases ht j oj hoj hd with rfl | hanc
          · exact hli
          · cases hl : listed.getD j false with
            | false => rfl
            | true =>
              have := anc_trans3 hok hcl _ j i hanc (hcl j hl)
              rw [hli] at this; cases this
        · have hG := subG _ (inG j (List.getElem?_eq_some_iff.1 hoj).1 hne)
          have := hT j oj hoj
          cases hl : listed.getD j false with
          | true =>
            rw [if_pos hl] at this
            rcases this with ⟨_, h⟩ | ⟨_, h⟩
            · exact .inr ⟨⟨_, _, h⟩, hG⟩
            · exact .inr ⟨⟨_, _, h⟩, hG⟩
          | false =>
            rw [if_neg (by rw [hl]; simp)] at this
            rw [← this]; exact .inl hG
      have hstep := step i o him ho r' w G hs turn
      have hnext : ∀ (v : Value) (w'' : World), (∃ h', Tp i (match o.dst with | some _ => v | none => undef) h' (msk ops i (vsOf ops r')) ∧ Has E w'' (h' :: G)) →
          wpAny P .any ops.toArray Q fuel (listed.setIfInBounds i true) ((Go.Q.fr N r').put o.dst v) w'' := ?_
      · exact GOK.wp ho' hstep hnext
      rintro v w'' ⟨h', hTi, hH'⟩
      refine ih _ _ _ ⟨by simpa using hsz, fun j hj => by rw [getD_set_ne false (show i ≠ j by omega)]; exact hnot j hj, ?_, ?_⟩ ?_
      · intro j hj d hd
        by_cases hji : i = j
        · subst hji; exact getD_set_true (hdeps d hd)
        · rw [getD_set_ne false hji] at hj
          exact getD_set_true (hcl j hj d hd)
      · let hs' : Nat → List Hp := fun j => if j = i then h' else hs j
        have hsG : F ++ ((List.range i).map hs' ++ (List.range' (i + 1) (ops.length - (i + 1))).map hs') = G := by
          have e1 : (List.range i).map hs' = (List.range i).map hs := List.map_congr_left fun j hj => by
            have := List.mem_range.1 hj; simp only [hs']; rw [if_neg (by omega)]
          have e2 : (List.range' (i + 1) (ops.length - (i + 1))).map hs' = (List.range' (i + 1) (ops.length - (i + 1))).map hs := List.map_congr_left fun j hj => by
            have := List.mem_range'_1.1 hj; simp only [hs']; rw [if_neg (by omega)]
          rw [e1, e2]
        have hH2 : Has E w'' (F ++ (List.range ops.length).map hs') := by
          refine hH'.perm ((hperm hs').trans ?_)
          rw [hsG]
          simp [hs']
        have hset : ∀ j, j ≠ i → (listed.setIfInBounds i true).getD j false = listed.getD j false := fun j hj => getD_set_ne false (Ne.symm hj)
        have hseti : (listed.setIfInBounds i true).getD i false = true := by
          have : i < listed.size := by omega
          simp [this]
        cases hd : o.dst with
        | none =>
          refine ⟨r', hs', by rw [fr_put_none], hH2, fun j oj hoj => ?_, fun t ht => hold t fun j oj hoj hdj => ?_⟩
          · by_cases hji : j = i
            · subst hji
              rw [ho] at hoj; cases hoj
              rw [if_pos hseti]
              rw [hd] at hTi
              exact .inr ⟨hd, by simpa [hs'] using hTi⟩
            · rw [hset j hji]
              have := hT j oj hoj
              simpa [hs', hji] using this
          · by_cases hji : j = i
            · subst hji; exact hli
            · have := ht j oj hoj hdj; rwa [hset j hji] at this
        | some d =>
          refine ⟨upd r' d v, hs', by rw [fr_put], hH2, fun j oj hoj => ?_, fun t ht => ?_⟩
          · by_cases hji : j = i
            · subst hji
              rw [ho] at hoj; cases hoj
              rw [if_pos hseti]
              refine .inl ⟨by rw [hd]; rfl, ?_⟩
              rw [hd] at hTi
              rw [msk_upd3 hok ho hd (fun k hk => ancNe k (anc_trans3 hok hcl _ j k hk hdeps))]
              simp only [slot, hd, upd_same, hs', if_true]; exact hTi
            · rw [hset j hji]
              have := hT j oj hoj
              have hne : oj.dst ≠ some d := hdist j oj d hoj hji hd
              have hsl : slot (upd r' d v) oj = slot r' oj := by
                unfold slot
                cases hdj : oj.dst with
                | none => rfl
                | some t => exact upd_ne _ _ (fun e => hne (by rw [hdj, e]))
              cases hlj : listed.getD j false with
              | true =>
                rw [msk_upd3 hok ho hd (fun k hk => ancNe k (anc_trans3 hok hcl _ j k hk (hcl j hlj)))]
                simpa [hs', hji, hsl, hlj] using this
              | false => simpa [hs', hji, hlj] using this
          · have hne : t ≠ d := by
              rintro rfl
              have := ht i o ho hd
              rw [hseti] at this; cases this
            rw [upd_ne _ _ hne]
            refine hold t fun j oj hoj hdj => ?_
            by_cases hji : j = i
            · subst hji; exact hli
            · have := ht j oj hoj hdj; rwa [hset j hji] at this
      · have : (List.range ops.length).countP (fun j => !(listed.setIfInBounds i true).getD j false) < (List.range ops.length).countP (fun j => !listed.getD j false) := by
          have hset : ∀ j, j ≠ i → (listed.setIfInBounds i true).getD j false = listed.getD j false := fun j hj => getD_set_ne false (Ne.symm hj)
          have hseti : (listed.setIfInBounds i true).getD i false = true := by
            have : i < listed.size := by omega
            simp [this]
          rw [hsplit, List.countP_append, List.countP_cons, List.countP_append, List.countP_cons, hseti, hli]
          have e1 : (List.range i).countP (fun j => !(listed.setIfInBounds i true).getD j false) = (List.range i).countP (fun j => !listed.getD j false) :=
            List.countP_congr fun j hj => by have := List.mem_range.1 hj; rw [hset j (by omega)]
          have e2 : (List.range' (i + 1) (ops.length - (i + 1))).countP (fun j => !(listed.setIfInBounds i true).getD j false) = (List.range' (i + 1) (ops.length - (i + 1))).countP (fun j => !listed.getD j false) :=
            List.countP_congr fun j hj => by have := List.mem_range'_1.1 hj; rw [hset j (by omega)]
          rw [e1, e2]; simp
        omega
  have h0 : Inv (Array.replicate ops.toArray.size false) (Go.Q.fr N r) { w with drawn := w.drawn + 1 } := by
    have hf : ∀ i, (Array.replicate ops.toArray.size false).getD i false = false := by
      intro i; by_cases h : i < ops.length <;> simp [h]
    refine ⟨by simp, fun i _ => hf i, fun i hi => ?_, r, C, rfl, H.drew _, fun i o _ => ?_, fun _ _ => rfl⟩
    · rw [hf] at hi; cases hi
    · rw [if_neg (by rw [hf]; simp)]
  refine key _ _ _ _ h0 ?_
  refine Nat.le_trans List.countP_le_length (by simp)

end Go.Q
namespace Go.Q
/-- All that is behind m waits for all that is ahead. -/
def barB (ops : List Oper) (m : Nat) : Bool := (List.range' m (ops.length - m)).all fun i => (List.range m).all fun j => anc ops ops.length i j
theorem barB_spec {ops : List Oper} {m : Nat} (h : barB ops m = true) : ∀ i j, m ≤ i → i < ops.length → j < m → anc ops ops.length i j = true := fun i j h1 h2 h3 => by
  unfold barB at h
  rw [List.all_eq_true] at h
  have := h i (List.mem_range'_1.2 (by omega))
  rw [List.all_eq_true] at this
  exact this j (List.mem_range.2 h3)
/-- What is to be shown where the first m operations are done. -/
def Rest (P : Program) (Q : Exit → Act → World → Prop) (ops : List Oper) (m : Nat) (a : Act) (w : World) : Prop :=
  flowOk3 ops = true → ∀ (fuel : Nat) (listed : Array Bool), listed.size = ops.length → (∀ i, i < m → listed.getD i false = true) → (∀ i, m ≤ i → listed.getD i false = false) → ops.length - m ≤ fuel → wpAny P .any ops.toArray Q fuel listed a w
theorem Rest.region {P : Program} {Q : Exit → Act → World → Prop} {w : World} {N : Nat} {r : Nat → Value} {id : Nat} {ops : List Oper} (hm : P.follows .mixedOrders = true) (hok : flowOk3 ops = true) (h : Rest P Q ops 0 (Go.Q.fr N r) { w with drawn := w.drawn + 1 }) : (Code.region id ops.toArray true).wp P Q (Go.Q.fr N r) w := by
  refine wp_region_any hm (h hok _ _ (by simp) (fun i hi => absurd hi (Nat.not_lt_zero _)) (fun i _ => ?_) (by simp))
  by_cases h : i < ops.length <;> simp [h]
theorem Rest.end {P : Program} {Q : Exit → Act → World → Prop} {ops : List Oper} {a : Act} {w : World} (h : Q .normal a w) : Rest P Q ops ops.length a w := fun _ fuel listed hsz hall _ _ => by
  refine wpAny_done ?_ h fuel
  rw [List.eq_nil_iff_forall_not_mem]
  intro i hi
  obtain ⟨h0, o, ho, _⟩ := mem_ready.1 hi
  have hlt : i < ops.length := by simpa using (Array.getElem?_eq_some_iff.1 ho).1
  have h1 := hall i hlt
  have hs : i < listed.size := by omega
  simp [hs] at h0 h1; rw [h0] at h1; cases h1
theorem Rest.done {P : Program} {Q : Exit → Act → World → Prop} {ops : List Oper} {a : Act} {w : World} {m : Nat} (hm : m = ops.length) (h : Q .normal a w) : Rest P Q ops m a w := hm ▸ Rest.end h
theorem Rest.one {P : Program} {Q : Exit → Act → World → Prop} {ops : List Oper} {N : Nat} {r : Nat → Value} {w : World} {k : Nat} {o : Oper} (ho : ops[k]? = some o) (hb : barB ops (k + 1) = true)
    (h : GOK P ops o N r w fun v w'' => Rest P Q ops (k + 1) ((Go.Q.fr N r).put o.dst v) w'') : Rest P Q ops k (Go.Q.fr N r) w := by
  intro hok fuel listed hsz hall hnot hf
  have hlk : k < ops.length := (List.getElem?_eq_some_iff.1 ho).1
  obtain ⟨f, rfl⟩ : ∃ f, fuel = f + 1 := ⟨fuel - 1, by omega⟩
  have hcl : ∀ i, listed.getD i false = true → ∀ d ∈ depsOf ops i, listed.getD d false = true := fun i hi d hd => by
    have hik : i < k := by
      rcases Nat.lt_or_ge i k with g | g
      · exact g
      · rw [hnot i g] at hi; cases hi
    have := (flowOk3_spec hok (List.getElem?_eq_getElem (show i < ops.length by omega))).1 d hd
    exact hall d (by omega)
  have hkr : k ∈ Region.ready .any ops.toArray listed := by
    refine mem_ready.2 ⟨?_, ops[k], by simp [hlk], fun e he hb => ?_⟩
    · have h1 := hnot k (Nat.le_refl _)
      have hs : k < listed.size := by omega
      simp [hs] at h1 ⊢; exact h1
    · have hd := mem_depsOf (List.getElem?_eq_getElem hlk) he hb
      exact hall _ ((flowOk3_spec hok (List.getElem?_eq_getElem hlk)).1 _ hd)
  refine ⟨fun hr => (by rw [hr] at hkr; cases hkr), fun i hi => ?_⟩
  obtain ⟨h0, o', ho', hdone⟩ := mem_ready.1 hi
  have hlt : i < ops.length := by simpa using (Array.getElem?_eq_some_iff.1 ho').1
  have hli : listed.getD i false = false := by
    have hs : i < listed.size := by omega
    simp [hs] at h0 ⊢; exact h0
  have hdeps : ∀ d ∈ depsOf ops i, listed.getD d false = true := by
    intro d hd
    unfold depsOf at hd
    rw [show ops[i]? = some o' by simpa using ho'] at hd
    obtain ⟨e, he, heq⟩ := List.mem_filterMap.1 hd
    split at heq
    · cases heq; exact hdone e (by simpa using he) (by assumption)
    · cases heq
  have hik : i = k := by
    rcases Nat.lt_trichotomy i k with g | g | g
    · rw [hall i g] at hli; cases hli
    · exact g
    · have := anc_trans3 hok hcl _ i k (barB_spec hb i k (by omega) hlt (by omega)) hdeps
      rw [hnot k (Nat.le_refl _)] at this; cases this
  subst hik
  refine GOK.wp (by simpa using ho) h fun v w'' hk => hk hok f _ (by simpa using hsz) (fun j hj => ?_) (fun j hj => ?_) (by omega)
  · by_cases e : i = j
    · subst e
      have : i < listed.size := by omega
      simp [this]
    · rw [getD_set_ne false e]; exact hall j (by omega)
  · rw [getD_set_ne false (show i ≠ j by omega)]; exact hnot j (by omega)
section
variable {P : Program} {Q : Exit → Act → World → Prop} {ops : List Oper} {N : Nat} {r : Nat → Value} {w : World}
theorem r_op {d : Nat} {op : Op} {T : TypeId} {pos : String} {after : Array Edge} (k : Nat) (ho : ops[k]? = some ⟨some d, op, T, pos, after, none⟩) (hb : barB ops (k + 1) = true)
    (h : OK P ⟨some d, op, T, pos, after, none⟩ (ev N r) w fun v w' => Rest P Q ops (k + 1) (Go.Q.fr N (upd r d v)) w') : Rest P Q ops k (Go.Q.fr N r) w :=
  Rest.one ho hb (GOK.free rfl (h.mono fun v w' hk => by rw [fr_put]; exact hk))
theorem r_eff {op : Op} {T : TypeId} {pos : String} {after : Array Edge} (k : Nat) (ho : ops[k]? = some ⟨none, op, T, pos, after, none⟩) (hb : barB ops (k + 1) = true)
    (h : OK P ⟨none, op, T, pos, after, none⟩ (ev N r) w fun _ w' => Rest P Q ops (k + 1) (Go.Q.fr N r) w') : Rest P Q ops k (Go.Q.fr N r) w :=
  Rest.one ho hb (GOK.free rfl (h.mono fun v w' hk => by rw [fr_put_none]; exact hk))
theorem r_on {d : Nat} {op : Op} {T : TypeId} {pos : String} {after : Array Edge} {g : Nat} {b : Bool} (k : Nat) (ho : ops[k]? = some ⟨some d, op, T, pos, after, some (g, b)⟩) (hb : barB ops (k + 1) = true) (t : Nat) (hgt : dstOf ops g = some t) (hv : ev N r (.tmp t) = .bool b)
    (h : OK P ⟨some d, op, T, pos, after, some (g, b)⟩ (ev N r) w fun v w' => Rest P Q ops (k + 1) (Go.Q.fr N (upd r d v)) w') : Rest P Q ops k (Go.Q.fr N r) w :=
  Rest.one ho hb (GOK.on rfl hgt hv (h.mono fun v w' hk => by rw [fr_put]; exact hk))
theorem r_off {d : Nat} {op : Op} {T : TypeId} {pos : String} {after : Array Edge} {g : Nat} {b b' : Bool} (k : Nat) (ho : ops[k]? = some ⟨some d, op, T, pos, after, some (g, b)⟩) (hb : barB ops (k + 1) = true) (t : Nat) (hgt : dstOf ops g = some t) (hv : ev N r (.tmp t) = .bool b') (hne : (b' == b) = false)
    (h : Rest P Q ops (k + 1) (Go.Q.fr N (upd r d undef)) w) : Rest P Q ops k (Go.Q.fr N r) w :=
  Rest.one ho hb (GOK.off rfl hgt hv hne (by rw [fr_put]; exact h))
theorem r_offu {d : Nat} {op : Op} {T : TypeId} {pos : String} {after : Array Edge} {g : Nat} {b : Bool} (k : Nat) (ho : ops[k]? = some ⟨some d, op, T, pos, after, some (g, b)⟩) (hb : barB ops (k + 1) = true) (t : Nat) (hgt : dstOf ops g = some t) (hv : ev N r (.tmp t) = undef)
    (h : Rest P Q ops (k + 1) (Go.Q.fr N (upd r d undef)) w) : Rest P Q ops k (Go.Q.fr N r) w :=
  Rest.one ho hb (GOK.offu rfl hgt hv (by rw [fr_put]; exact h))
end
theorem Rest.phase {P : Program} {Q : Exit → Act → World → Prop} {E w : World} {N : Nat} {r : Nat → Value} {ops : List Oper} (F : List (List Hp)) (C : Nat → List Hp) (Tp : Nat → Value → List Hp → (Nat → Value) → Prop)
    (m0 m : Nat) (hml : m ≤ ops.length) (hm0 : m0 ≤ m) (hbar : barB ops m = true) (H : Has E w (F ++ (List.range ops.length).map C))
    (done0 : ∀ i o, i < m0 → ops[i]? = some o → Tp i (slot r o) (C i) (msk ops i (vsOf ops r)))
    (step : ∀ i o, m0 ≤ i → i < m → ops[i]? = some o → ∀ r' w' G hs, Turn3 E ops F C Tp N r i r' w' G hs → GOK P ops o N r' w' fun v w'' => ∃ h', Tp i (match o.dst with | some _ => v | none => undef) h' (msk ops i (vsOf ops r')) ∧ Has E w'' (h' :: G))
    (fin : ∀ (vs : Nat → Value) (hs : Nat → List Hp) w', (∀ i o, i < m → ops[i]? = some o → Tp i (vs i) (hs i) (msk ops i vs)) → (∀ i, m ≤ i → i < ops.length → hs i = C i) → Has E w' (F ++ (List.range ops.length).map hs) → Rest P Q ops m (Go.Q.fr N (puts vs (ops.take m) 0 r)) w') :
    Rest P Q ops m0 (Go.Q.fr N r) w := by
  intro hok fuel0 listed0 hsz0 hall0 hnot0 hf0
  have hsq := barB_spec hbar
  -- the state while some are done
  let Inv : Array Bool → Act → World → Prop := fun listed a w => listed.size = ops.length ∧ (∀ i, i < m0 → listed.getD i false = true) ∧ (∀ i, m ≤ i → listed.getD i false = false) ∧ (∀ i, listed.getD i false = true → ∀ d ∈ depsOf ops i, listed.getD d false = true) ∧
    ∃ r' hs, a = Go.Q.fr N r' ∧ Has E w (F ++ (List.range ops.length).map hs) ∧ (∀ i o, ops[i]? = some o → if listed.getD i false = true then o.dst.isSome = true ∧ Tp i (slot r' o) (hs i) (msk ops i (vsOf ops r')) ∨ o.dst = none ∧ Tp i undef (hs i) (msk ops i (vsOf ops r')) else hs i = C i) ∧
    (∀ t, (∀ i o, ops[i]? = some o → o.dst = some t → listed.getD i false = false) → r' t = r t)
  have key : ∀ fuel listed a w, Inv listed a w → (List.range ops.length).countP (fun i => !listed.getD i false) ≤ fuel → wpAny P .any ops.toArray Q fuel listed a w := by
    have ready0 : ∀ listed : Array Bool, listed.size = ops.length → Region.ready .any ops.toArray listed = [] → ∀ i, i < ops.length → listed.getD i false = true := by
      intro listed hsz hr i
      induction i using Nat.strongRecOn with
      | _ i ih =>
        intro hi
        cases hl : listed.getD i false with
        | true => rfl
        | false =>
          exfalso
          obtain ⟨o, ho⟩ : ∃ o, ops[i]? = some o := ⟨_, List.getElem?_eq_getElem hi⟩
          have : i ∈ Region.ready .any ops.toArray listed := by
            refine mem_ready.2 ⟨?_, o, by simpa using ho, fun e he hb => ?_⟩
            · have : i < listed.size := by omega
              simp [this] at hl ⊢; exact hl
            · have hd := mem_depsOf ho he hb
              have hlt := (flowOk3_spec hok ho).1 _ hd
              exact ih _ hlt (by omega)
          rw [hr] at this; cases this
    have fin' : ∀ fuel listed a w, Inv listed a w → (List.range ops.length).countP (fun i => !listed.getD i false) ≤ fuel → (∀ i, i < m → listed.getD i false = true) → wpAny P .any ops.toArray Q fuel listed a w := by
      rintro fuel listed a w ⟨hsz, hpre, hnot, _, r', hs, rfl, hH, hT, hold⟩ hc hall
      let vs : Nat → Value := vsOf ops r'
      have htk : ∀ j o', (ops.take m)[j]? = some o' → ops[j]? = some o' ∧ j < m := fun j o' hj => by
        rw [List.getElem?_take] at hj
        split at hj
        · exact ⟨hj, by assumption⟩
        · cases hj
      have e : Go.Q.fr N r' = Go.Q.fr N (puts vs (ops.take m) 0 r) := by
        refine fr_congr fun t _ => ?_
        by_cases hex : ∃ (i : Nat) (o : Oper), (ops.take m)[i]? = some o ∧ o.dst = some t
        · obtain ⟨i, o, ho, hd⟩ := hex
          rw [puts_new vs (ops.take m) 0 i r o t ho hd (fun j o' hj hne => (flowOk3_spec hok (htk i o ho).1).2 j o' t (htk j o' hj).1 hne hd)]
          simp [vs, vsOf, (htk i o ho).1, slot, hd]
        · rw [puts_old vs (ops.take m) 0 r t (fun o ho hd => by obtain ⟨j, hj⟩ := List.getElem?_of_mem ho; exact hex ⟨j, o, hj, hd⟩)]
          refine hold t (fun i o ho hd => ?_)
          rcases Nat.lt_or_ge i m with g | g
          · exact absurd ⟨i, o, by rw [List.getElem?_take, if_pos g]; exact ho, hd⟩ hex
          · exact hnot i g
      have hw := fin vs hs w (fun i o hi ho => by
        have := hT i o ho
        rw [if_pos (hall i hi)] at this
        have hvs : vs i = slot r' o := by simp only [vs, vsOf, ho]
        rw [hvs]
        rcases this with ⟨_, h⟩ | ⟨hn, h⟩
        · exact h
        · unfold slot; rw [hn]; exact h) (fun i hi hl => by
        have := hT i _ (List.getElem?_eq_getElem hl)
        rw [if_neg (by rw [hnot i hi]; simp)] at this; exact this) hH
      rw [← e] at hw
      have hcount : ops.length - m ≤ (List.range ops.length).countP (fun i => !listed.getD i false) := by
        have : List.range ops.length = List.range m ++ List.range' m (ops.length - m) := by
          have := List.range'_append_1 (s := 0) (m := m) (n := ops.length - m)
          rw [Nat.zero_add] at this
          rw [List.range_eq_range', List.range_eq_range', this]; congr 1; omega
        rw [this, List.countP_append]
        have h2 : (List.range' m (ops.length - m)).countP (fun i => !listed.getD i false) = (List.range' m (ops.length - m)).length := by
          rw [List.countP_eq_length]
          intro i hi
          rw [hnot i (by have := List.mem_range'_1.1 hi; omega)]; rfl
        rw [h2, List.length_range']; omega
      exact hw hok fuel listed hsz hall hnot (by omega)
    intro fuel
    induction fuel with
    | zero =>
      intro listed a w hI hc
      refine fin' 0 listed a w hI hc fun i hi => ?_
      cases hl : listed.getD i false with
      | true => rfl
      | false =>
        have hp : 0 < (List.range ops.length).countP (fun i => !listed.getD i false) := List.countP_pos_iff.2 ⟨i, List.mem_range.2 (by omega), by rw [hl]; rfl⟩
        omega
    | succ fuel ih =>
      intro listed a w hI hc
      by_cases hall : ∀ i, i < m → listed.getD i false = true
      · exact fin' _ listed a w hI hc hall
      refine ⟨fun hr => absurd (fun i hi => ready0 listed hI.1 hr i (by omega)) hall, fun i hi => ?_⟩
      obtain ⟨hsz, hpre, hnot, hcl, r', hs, rfl, hH, hT, hold⟩ := hI
      obtain ⟨h0, o, ho', hdone⟩ := mem_ready.1 hi
      have ho : ops[i]? = some o := by simpa using ho'
      have hlt : i < ops.length := (List.getElem?_eq_some_iff.1 ho).1
      have hli : listed.getD i false = false := by
        have hs : i < listed.size := by omega
        simp [hs] at h0 ⊢; exact h0
      obtain ⟨hdlt, hdist⟩ := flowOk3_spec hok ho
      have hdeps : ∀ d ∈ depsOf ops i, listed.getD d false = true := by
        intro d hd
        unfold depsOf at hd
        rw [ho] at hd
        obtain ⟨e, he, heq⟩ := List.mem_filterMap.1 hd
        split at heq
        · cases heq; exact hdone e (by simpa using he) (by assumption)
        · cases heq
      have him : i < m := by
        rcases Nat.lt_or_ge i m with g | g
        · exact g
        · exact absurd (fun j hj => anc_trans3 hok hcl _ i j (hsq i j g hlt hj) hdeps) hall
      -- the heaplets: the one at i in front
      let G : List (List Hp) := F ++ ((List.range i).map hs ++ (List.range' (i + 1) (ops.length - (i + 1))).map hs)
      have hsplit : List.range ops.length = List.range i ++ i :: List.range' (i + 1) (ops.length - (i + 1)) := by
        rw [List.range_eq_range', List.range_eq_range', show i :: List.range' (i + 1) (ops.length - (i + 1)) = List.range' i (ops.length - i) from by
          rw [show ops.length - i = (ops.length - (i + 1)) + 1 by omega, List.range'_succ]]
        have := List.range'_append_1 (s := 0) (m := i) (n := ops.length - i)
        rw [Nat.zero_add] at this
        rw [this]; congr 1; omega
      have mapsplit : ∀ f : Nat → List Hp, (List.range ops.length).map f = (List.range i).map f ++ f i :: (List.range' (i + 1) (ops.length - (i + 1))).map f := by
        intro f; rw [hsplit]; simp
      have hperm : ∀ f : Nat → List Hp, (F ++ (List.range ops.length).map f).Perm (f i :: (F ++ ((List.range i).map f ++ (List.range' (i + 1) (ops.length - (i + 1))).map f))) := by
        intro f
        rw [mapsplit f, ← List.append_assoc, ← List.append_assoc]
        exact List.perm_middle
      have hhi : hs i = C i := by have := hT i o ho; rw [if_neg (by rw [hli]; simp)] at this; exact this
      have inG : ∀ j, j < ops.length → j ≠ i → hs j ∈ G := by
        intro j hj hne
        refine List.mem_append_right _ ?_
        rcases Nat.lt_or_gt_of_ne hne with h | h
        · exact List.mem_append_left _ (List.mem_map.2 ⟨j, List.mem_range.2 h, rfl⟩)
        · exact List.mem_append_right _ (List.mem_map.2 ⟨j, by rw [List.mem_range'_1]; omega, rfl⟩)
      have subG : ∀ s ∈ G, s ⊆ G.flatten := fun s hs' x hx => List.mem_flatten.2 ⟨s, hs', hx⟩
      have ancNe : ∀ j, listed.getD j false = true → j ≠ i := fun j hj e => by rw [e, hli] at hj; cases hj
      have turn : Turn3 E ops F C Tp N r i r' w G hs := by
        refine ⟨?_, fun s hs' => subG s (List.mem_append_left _ hs'), fun j oj hoj hanc => ?_, fun j hanc => ?_, fun t ht => ?_, fun j oj hoj hne => ?_⟩
        · rw [← hhi]; exact hH.perm (hperm hs).symm
        · have hl := anc_trans3 hok hcl _ i j hanc hdeps
          refine ⟨?_, subG _ (inG j (List.getElem?_eq_some_iff.1 hoj).1 (ancNe j hl))⟩
          have := hT j oj hoj
          rw [if_pos hl] at this
          rcases this with ⟨_, h⟩ | ⟨hn, h⟩
          · exact h
          · unfold slot; rw [hn]; exact h
        · cases hj : ops[j]? with
          | none =>
            exfalso
            unfold anc at hanc
            split at hanc
            · cases hanc
            · simp [depsOf, hj] at hanc
          | some oj =>
            have hnl : listed.getD j false = false := by
              cases hl : listed.getD j false with
              | false => rfl
              | true =>
                have := anc_trans3 hok hcl _ j i hanc (hcl j hl)
                rw [hli] at this; cases this
            have hjl := (List.getElem?_eq_some_iff.1 hj).1
            have hne : j ≠ i := by
              rintro rfl
              have := anc_trans3 hok hcl _ j j hanc hdeps
              rw [hli] at this; cases this
            have := hT j oj hj
            rw [if_neg (by rw [hnl]; simp)] at this
            rw [← this]; exact subG _ (inG j hjl hne)
        · refine hold t (fun j oj hoj hd => ?_)
          rcases ht j oj hoj hd with rfl | hanc
          · exact hli
          · cases hl : listed.getD j false with
            | false => rfl
            | true =>
              have := anc_trans3 hok hcl _ j i hanc (hcl j hl)
              rw [hli] at this; cases this
        · have hG := subG _ (inG j (List.getElem?_eq_some_iff.1 hoj).1 hne)
          have := hT j oj hoj
          cases hl : listed.getD j false with
          | true =>
            rw [if_pos hl] at this
            rcases this with ⟨_, h⟩ | ⟨_, h⟩
            · exact .inr ⟨⟨_, _, h⟩, hG⟩
            · exact .inr ⟨⟨_, _, h⟩, hG⟩
          | false =>
            rw [if_neg (by rw [hl]; simp)] at this
            rw [← this]; exact .inl hG
      have hi0 : m0 ≤ i := by
        rcases Nat.lt_or_ge i m0 with g | g
        · rw [hpre i g] at hli; cases hli
        · exact g
      have hstep := step i o hi0 him ho r' w G hs turn
      have hnext : ∀ (v : Value) (w'' : World), (∃ h', Tp i (match o.dst with | some _ => v | none => undef) h' (msk ops i (vsOf ops r')) ∧ Has E w'' (h' :: G)) →
          wpAny P .any ops.toArray Q fuel (listed.setIfInBounds i true) ((Go.Q.fr N r').put o.dst v) w'' := ?_
      · exact GOK.wp ho' hstep hnext
      rintro v w'' ⟨h', hTi, hH'⟩
      refine ih _ _ _ ⟨by simpa using hsz, fun j hj => by rw [getD_set_ne false (show i ≠ j by omega)]; exact hpre j hj, fun j hj => by rw [getD_set_ne false (show i ≠ j by omega)]; exact hnot j hj, ?_, ?_⟩ ?_
      · intro j hj d hd
        by_cases hji : i = j
        · subst hji; exact getD_set_true (hdeps d hd)
        · rw [getD_set_ne false hji] at hj
          exact getD_set_true (hcl j hj d hd)
      · let hs' : Nat → List Hp := fun j => if j = i then h' else hs j
        have hsG : F ++ ((List.range i).map hs' ++ (List.range' (i + 1) (ops.length - (i + 1))).map hs') = G := by
          have e1 : (List.range i).map hs' = (List.range i).map hs := List.map_congr_left fun j hj => by
            have := List.mem_range.1 hj; simp only [hs']; rw [if_neg (by omega)]
          have e2 : (List.range' (i + 1) (ops.length - (i + 1))).map hs' = (List.range' (i + 1) (ops.length - (i + 1))).map hs := List.map_congr_left fun j hj => by
            have := List.mem_range'_1.1 hj; simp only [hs']; rw [if_neg (by omega)]
          rw [e1, e2]
        have hH2 : Has E w'' (F ++ (List.range ops.length).map hs') := by
          refine hH'.perm ((hperm hs').trans ?_)
          rw [hsG]
          simp [hs']
        have hset : ∀ j, j ≠ i → (listed.setIfInBounds i true).getD j false = listed.getD j false := fun j hj => getD_set_ne false (Ne.symm hj)
        have hseti : (listed.setIfInBounds i true).getD i false = true := by
          have : i < listed.size := by omega
          simp [this]
        cases hd : o.dst with
        | none =>
          refine ⟨r', hs', by rw [fr_put_none], hH2, fun j oj hoj => ?_, fun t ht => hold t fun j oj hoj hdj => ?_⟩
          · by_cases hji : j = i
            · subst hji
              rw [ho] at hoj; cases hoj
              rw [if_pos hseti]
              rw [hd] at hTi
              exact .inr ⟨hd, by simpa [hs'] using hTi⟩
            · rw [hset j hji]
              have := hT j oj hoj
              simpa [hs', hji] using this
          · by_cases hji : j = i
            · subst hji; exact hli
            · have := ht j oj hoj hdj; rwa [hset j hji] at this
        | some d =>
          refine ⟨upd r' d v, hs', by rw [fr_put], hH2, fun j oj hoj => ?_, fun t ht => ?_⟩
          · by_cases hji : j = i
            · subst hji
              rw [ho] at hoj; cases hoj
              rw [if_pos hseti]
              refine .inl ⟨by rw [hd]; rfl, ?_⟩
              rw [hd] at hTi
              rw [msk_upd3 hok ho hd (fun k hk => ancNe k (anc_trans3 hok hcl _ j k hk hdeps))]
              simp only [slot, hd, upd_same, hs', if_true]; exact hTi
            · rw [hset j hji]
              have := hT j oj hoj
              have hne : oj.dst ≠ some d := hdist j oj d hoj hji hd
              have hsl : slot (upd r' d v) oj = slot r' oj := by
                unfold slot
                cases hdj : oj.dst with
                | none => rfl
                | some t => exact upd_ne _ _ (fun e => hne (by rw [hdj, e]))
              cases hlj : listed.getD j false with
              | true =>
                rw [msk_upd3 hok ho hd (fun k hk => ancNe k (anc_trans3 hok hcl _ j k hk (hcl j hlj)))]
                simpa [hs', hji, hsl, hlj] using this
              | false => simpa [hs', hji, hlj] using this
          · have hne : t ≠ d := by
              rintro rfl
              have := ht i o ho hd
              rw [hseti] at this; cases this
            rw [upd_ne _ _ hne]
            refine hold t fun j oj hoj hdj => ?_
            by_cases hji : j = i
            · subst hji; exact hli
            · have := ht j oj hoj hdj; rwa [hset j hji] at this
      · have : (List.range ops.length).countP (fun j => !(listed.setIfInBounds i true).getD j false) < (List.range ops.length).countP (fun j => !listed.getD j false) := by
          have hset : ∀ j, j ≠ i → (listed.setIfInBounds i true).getD j false = listed.getD j false := fun j hj => getD_set_ne false (Ne.symm hj)
          have hseti : (listed.setIfInBounds i true).getD i false = true := by
            have : i < listed.size := by omega
            simp [this]
          rw [hsplit, List.countP_append, List.countP_cons, List.countP_append, List.countP_cons, hseti, hli]
          have e1 : (List.range i).countP (fun j => !(listed.setIfInBounds i true).getD j false) = (List.range i).countP (fun j => !listed.getD j false) :=
            List.countP_congr fun j hj => by have := List.mem_range.1 hj; rw [hset j (by omega)]
          have e2 : (List.range' (i + 1) (ops.length - (i + 1))).countP (fun j => !(listed.setIfInBounds i true).getD j false) = (List.range' (i + 1) (ops.length - (i + 1))).countP (fun j => !listed.getD j false) :=
            List.countP_congr fun j hj => by have := List.mem_range'_1.1 hj; rw [hset j (by omega)]
          rw [e1, e2]; simp
        omega
  have h0 : Inv listed0 (Go.Q.fr N r) w := by
    refine ⟨hsz0, hall0, fun i hi => hnot0 i (by omega), fun i hi d hd => ?_, r, C, rfl, H, fun i o ho => ?_, fun _ _ => rfl⟩
    · have hi0 : i < m0 := by
        rcases Nat.lt_or_ge i m0 with g | g
        · exact g
        · rw [hnot0 i g] at hi; cases hi
      have := (flowOk3_spec hok (List.getElem?_eq_getElem (show i < ops.length by omega))).1 d hd
      exact hall0 d (by omega)
    · rcases Nat.lt_or_ge i m0 with g | g
      · rw [if_pos (hall0 i g)]
        have hd := done0 i o g ho
        cases hdd : o.dst with
        | none => exact .inr ⟨rfl, by unfold slot at hd; rw [hdd] at hd; exact hd⟩
        | some t => exact .inl ⟨rfl, hd⟩
      · rw [if_neg (by rw [hnot0 i g]; simp)]
  refine key _ _ _ _ h0 ?_
  have e0 : List.range ops.length = List.range m0 ++ List.range' m0 (ops.length - m0) := by
    have := List.range'_append_1 (s := 0) (m := m0) (n := ops.length - m0)
    rw [Nat.zero_add] at this
    rw [List.range_eq_range', List.range_eq_range', this]; congr 1; omega
  rw [e0, List.countP_append]
  have e1 : (List.range m0).countP (fun i => !listed0.getD i false) = 0 := by
    rw [List.countP_eq_zero]
    intro i hi
    rw [hall0 i (List.mem_range.1 hi)]; simp
  have e2 : (List.range' m0 (ops.length - m0)).countP (fun i => !listed0.getD i false) ≤ ops.length - m0 := Nat.le_trans List.countP_le_length (by rw [List.length_range']; exact Nat.le_refl _)
  omega
end Go.Q
namespace Go.Q
section
variable {P : Program} {ops : List Oper} {Q : Exit → Act → World → Prop}
/-- One operation, wanted or not. -/
def okOp (P : Program) (ops : List Oper) (i : Nat) (K : Act → World → Prop) (a : Act) (w : World) : Prop :=
  ∃ o, ops[i]? = some o ∧ ((Region.wanted o (yielded ops.toArray a.tmps) = true ∧ OK P o a.eval w fun v w' => K (a.put o.dst v) w') ∨ (Region.wanted o (yielded ops.toArray a.tmps) = false ∧ K (a.put o.dst undef) w))
theorem okOp.mono {i : Nat} {K K' : Act → World → Prop} {a : Act} {w : World} (h : okOp P ops i K a w) (hk : ∀ a w, K a w → K' a w) : okOp P ops i K' a w := by
  obtain ⟨o, ho, ⟨h1, h2⟩ | ⟨h1, h2⟩⟩ := h
  · exact ⟨o, ho, .inl ⟨h1, h2.mono fun v w' => hk _ _⟩⟩
  · exact ⟨o, ho, .inr ⟨h1, hk _ _ h2⟩⟩
theorem okOp.wp {i : Nat} {K : Act → World → Prop} {a : Act} {w : World} (h : okOp P ops i K a w) : wpOp P ops.toArray Q i K a w := by
  obtain ⟨o, ho, h⟩ := h
  unfold wpOp
  rw [show ops.toArray[i]? = some o by simpa using ho]
  rcases h with ⟨h1, h2⟩ | ⟨h1, h2⟩
  · simp only [h1, if_true]; exact .inl h2.wp
  · simp only [h1, Bool.false_eq_true, if_false]; exact h2
def allB (hi : Nat) (l : Array Bool) : Bool := (List.range hi).all fun i => l.getD i false
/-- All orders of the phase that ends ahead of hi, n operations are left; I holds all the way. -/
def anyI (P : Program) (ops : List Oper) (hi : Nat) (K : Act → World → Prop) (I : World → Prop) : Nat → Array Bool → Act → World → Prop
  | 0, l, a, w => I w ∧ allB hi l = true ∧ K a w
  | n + 1, l, a, w => I w ∧ allB hi l = false ∧ ∀ i ∈ Region.ready .any ops.toArray l, i < hi → okOp P ops i (anyI P ops hi K I n (l.setIfInBounds i true)) a w
theorem anyI.inv {hi : Nat} {K : Act → World → Prop} {I : World → Prop} : ∀ {n : Nat} {l : Array Bool} {a : Act} {w : World}, anyI P ops hi K I n l a w → I w
  | 0, _, _, _, h => h.1
  | _ + 1, _, _, _, h => h.1
/-- It gives this value wherever I holds, and changes nothing. -/
def YI (P : Program) (ops : List Oper) (o : Oper) (v : Value) (a : Act) (I : World → Prop) : Prop :=
  (Region.wanted o (yielded ops.toArray a.tmps) = true ∧ ∀ w, I w → OK P o a.eval w fun v' w' => v' = v ∧ w' = w) ∨ (Region.wanted o (yielded ops.toArray a.tmps) = false ∧ v = undef)
theorem OK.congr {o : Oper} {ρ ρ' : Operand → Value} {w : World} {K : Value → World → Prop} (h : execOp ρ' o = execOp ρ o) (k : OK P o ρ w K) : OK P o ρ' w K := by
  unfold OK at *; rw [h]; exact k
theorem YI.same {o : Oper} {v : Value} {a a' : Act} {I : World → Prop} (h : YI P ops o v a I) (he : execOp a'.eval o = execOp a.eval o) (hw : Region.wanted o (yielded ops.toArray a'.tmps) = Region.wanted o (yielded ops.toArray a.tmps)) : YI P ops o v a' I := by
  unfold YI at *
  rw [hw]
  exact h.imp (fun g => ⟨g.1, fun w hI => (g.2 w hI).congr he⟩) id
theorem YI.ok {i : Nat} {o : Oper} {v : Value} {a : Act} {I : World → Prop} {K : Act → World → Prop} {w : World} (hi : ops[i]? = some o) (h : YI P ops o v a I) (hI : I w) (hk : K (a.put o.dst v) w) : okOp P ops i K a w := by
  refine ⟨o, hi, ?_⟩
  rcases h with ⟨h1, h2⟩ | ⟨h1, rfl⟩
  · exact .inl ⟨h1, (h2 w hI).mono fun v' w' ⟨e1, e2⟩ => by rw [e1, e2]; exact hk⟩
  · exact .inr ⟨h1, hk⟩
theorem okOp_put {j : Nat} {oi oj : Oper} {v : Value} {I : World → Prop} (hj : ops[j]? = some oj) (hap : oi.apart ops.toArray oj = true) (hsi : ∀ cs b, oi.op ≠ .select cs b) (hsj : ∀ cs b, oj.op ≠ .select cs b)
    {K : Act → World → Prop} {a : Act} {w : World} (hy : YI P ops oi v a I) (h : okOp P ops j K (a.put oi.dst v) w) : okOp P ops j (fun a' w' => YI P ops oi v a' I ∧ K (a'.put oi.dst v) w') a w := by
  obtain ⟨h1, h2, h3⟩ := Oper.apart_spec hap
  have keep : ∀ u, YI P ops oi v (a.put oj.dst u) I := fun u => hy.same (execOp_put oi hsi a oj.dst u h3) (wanted_put oi a oj.dst u h3)
  obtain ⟨o, ho, h⟩ := h
  obtain rfl : o = oj := Option.some.inj (ho.symm.trans hj)
  refine ⟨o, ho, ?_⟩
  rw [wanted_put o a oi.dst v h1] at h
  rcases h with ⟨g1, g2⟩ | ⟨g1, g2⟩
  · refine .inl ⟨g1, OK.congr (execOp_put o hsj a oi.dst v h1).symm (g2.mono fun u w' hk => ⟨keep u, ?_⟩)⟩
    rw [← Act.put_comm a v u h2]; exact hk
  · refine .inr ⟨g1, keep _, ?_⟩
    rw [← Act.put_comm a v undef h2]; exact g2
theorem ready_un {i : Nat} {l : Array Bool} (h : i ∈ Region.ready .any ops.toArray l) : l.getD i false = false ∧ i < l.size := by
  have h0 := (mem_ready.1 h).1
  rcases Nat.lt_or_ge i l.size with g | g
  · refine ⟨?_, g⟩
    simp [g] at h0 ⊢; exact h0
  · simp [Array.getElem?_eq_none g] at h0
theorem allB_un {hi i : Nat} {l : Array Bool} (h : l.getD i false = false) (hlt : i < hi) : allB hi l = false := by
  cases e : allB hi l with
  | false => rfl
  | true =>
    unfold allB at e
    rw [List.all_eq_true] at e
    have := e i (List.mem_range.2 hlt)
    rw [h] at this; cases this
theorem anyI_first {hi i : Nat} {oi : Oper} {v : Value} {K : Act → World → Prop} {I : World → Prop} (hoi : ops[i]? = some oi) (hlt : i < hi) (hsel : ∀ (j : Nat) (o : Oper) cs b, ops[j]? = some o → o.op ≠ .select cs b) :
    ∀ (n : Nat) (l : Array Bool) (a : Act) (w : World),
      (∀ j oj, ops[j]? = some oj → j ≠ i → l.getD j true = false → (∀ e ∈ oj.after, Region.binds .any e = true → e.on ≠ i) → oi.apart ops.toArray oj = true) →
      i ∈ Region.ready .any ops.toArray l → YI P ops oi v a I → anyI P ops hi K I n (l.setIfInBounds i true) (a.put oi.dst v) w → anyI P ops hi K I (n + 1) l a w := by
  intro n
  induction n with
  | zero =>
    intro l a w _ hr hy H
    have hu := ready_un hr
    refine ⟨H.inv, allB_un hu.1 hlt, fun j hj hjh => ?_⟩
    by_cases hji : j = i
    · subst hji; exact hy.ok hoi H.inv H
    · have h2 := ready_un (ready_mono hj hji)
      have := allB_un h2.1 hjh
      rw [H.2.1] at this; cases this
  | succ n ih =>
    intro l a w hfree hr hy H
    have hu := ready_un hr
    refine ⟨H.inv, allB_un hu.1 hlt, fun j hj hjh => ?_⟩
    by_cases hji : j = i
    · subst hji; exact hy.ok hoi H.inv H
    · have h1 := H.2.2 j (ready_mono hj hji) hjh
      obtain ⟨hjun, oj, hoj, hall⟩ := mem_ready.1 hj
      have hoj' : ops[j]? = some oj := by simpa using hoj
      have hnot : ∀ e ∈ oj.after, Region.binds .any e = true → e.on ≠ i := fun e he hb heq => by
        have h1 := hall e he hb
        rw [heq, hu.1] at h1; cases h1
      have h2 := okOp_put hoj' (hfree j oj hoj' hji hjun hnot) (fun cs b => hsel i oi cs b hoi) (fun cs b => hsel j oj cs b hoj') hy h1
      have hfree' : ∀ k ok, ops[k]? = some ok → k ≠ i → (l.setIfInBounds j true).getD k true = false → (∀ e ∈ ok.after, Region.binds .any e = true → e.on ≠ i) → oi.apart ops.toArray ok = true := fun k ok hk hki hun hno => by
        refine hfree k ok hk hki ?_ hno
        by_cases hjk : j = k
        · subst hjk; exact hjun
        · rw [getD_set_ne true hjk] at hun; exact hun
      refine h2.mono fun a' w' h3 => ih (l.setIfInBounds j true) a' w' hfree' (ready_mono hr (Ne.symm hji)) h3.1 ?_
      rw [Array.setIfInBounds_comm _ _ hji]
      exact h3.2
theorem anyI_wp {hi : Nat} {I : World → Prop} (hok : flowOk3 ops = true) (hbar : barB ops hi = true) (hhi : hi ≤ ops.length) : ∀ (n fuel : Nat) (l : Array Bool) (a : Act) (w : World), l.size = ops.length → (∀ i, hi ≤ i → l.getD i false = false) →
    (∀ i, l.getD i false = true → ∀ d ∈ depsOf ops i, l.getD d false = true) → n + (ops.length - hi) ≤ fuel → anyI P ops hi (Rest P Q ops hi) I n l a w → wpAny P .any ops.toArray Q fuel l a w
  | 0, fuel, l, a, w, hsz, hnot, _, hf, h => by
    refine h.2.2 hok fuel l hsz (fun i hi' => ?_) hnot (by omega)
    have := h.2.1
    unfold allB at this
    rw [List.all_eq_true] at this
    exact this i (List.mem_range.2 hi')
  | n + 1, fuel, l, a, w, hsz, hnot, hcl, hf, h => by
    obtain ⟨f, rfl⟩ : ∃ f, fuel = f + 1 := ⟨fuel - 1, by omega⟩
    obtain ⟨_, hall, hr⟩ := h
    obtain ⟨m, hm, hum, hmin⟩ : ∃ m, m < hi ∧ l.getD m false = false ∧ ∀ j, j < m → l.getD j false = true := by
      unfold allB at hall
      rw [List.all_eq_false] at hall
      obtain ⟨x, hx, hxu⟩ := hall
      have hx' : x < hi := List.mem_range.1 hx
      have hxu' : l.getD x false = false := by simpa using hxu
      clear hxu hx
      induction x using Nat.strongRecOn with
      | ind x ih =>
        by_cases g : ∃ j, j < x ∧ l.getD j false = false
        · obtain ⟨j, hj, hju⟩ := g; exact ih j hj (by omega) hju
        · exact ⟨x, hx', hxu', fun j hj => by
            cases e : l.getD j false with
            | true => rfl
            | false => exact absurd ⟨j, hj, e⟩ g⟩
    have hml : m < ops.length := by omega
    have hmr : m ∈ Region.ready .any ops.toArray l := by
      refine mem_ready.2 ⟨?_, ops[m], by simp [hml], fun e he hb => ?_⟩
      · have hs : m < l.size := by omega
        simp [hs] at hum ⊢; exact hum
      · have hd := mem_depsOf (List.getElem?_eq_getElem hml) he hb
        exact hmin _ ((flowOk3_spec hok (List.getElem?_eq_getElem hml)).1 _ hd)
    refine ⟨fun g => (by rw [g] at hmr; cases hmr), fun i hi' => ?_⟩
    obtain ⟨hiu, his⟩ := ready_un hi'
    obtain ⟨_, o, ho, hdone⟩ := mem_ready.1 hi'
    have ho' : ops[i]? = some o := by simpa using ho
    have hdeps : ∀ d ∈ depsOf ops i, l.getD d false = true := by
      intro d hd
      unfold depsOf at hd
      rw [ho'] at hd
      obtain ⟨e, he, heq⟩ := List.mem_filterMap.1 hd
      split at heq
      · cases heq; exact hdone e (by simpa using he) (by assumption)
      · cases heq
    have hih : i < hi := by
      rcases Nat.lt_or_ge i hi with g | g
      · exact g
      · have := anc_trans3 hok hcl _ i m (barB_spec hbar i m g (by omega) hm) hdeps
        rw [hum] at this; cases this
    refine wpOp_mono ?_ (hr i hi' hih).wp
    intro a' w' h'
    refine anyI_wp hok hbar hhi n f _ a' w' (by simpa using hsz) (fun j hj => ?_) (fun j hj d hd => ?_) (by omega) h'
    · rw [getD_set_ne false (show i ≠ j by omega)]; exact hnot j hj
    · by_cases e : i = j
      · subst e; exact getD_set_true (hdeps d hd)
      · rw [getD_set_ne false e] at hj; exact getD_set_true (hcl j hj d hd)
def prefB (lo n : Nat) : Array Bool := (List.replicate lo true ++ List.replicate (n - lo) false).toArray
def freeB (ops : List Oper) (hi : Nat) (l : Array Bool) (k : Nat) : Bool := Region.noSelect ops.toArray && Region.free .any ops.toArray l k && (Region.ready .any ops.toArray l).contains k && decide (k < hi)
def onlyB (ops : List Oper) (hi : Nat) (l : Array Bool) (k : Nat) : Bool := (Region.ready .any ops.toArray l).all (fun i => i == k || decide (hi ≤ i)) && (Region.ready .any ops.toArray l).contains k && decide (k < hi)
theorem Rest.phaseA {N : Nat} {r : Nat → Value} {w : World} (I : World → Prop) (lo hi m : Nat) (hm : lo + m = hi) (hhi : decide (hi ≤ ops.length) = true) (hbar : barB ops hi = true)
    (h : anyI P ops hi (Rest P Q ops hi) I m (prefB lo ops.length) (Go.Q.fr N r) w) : Rest P Q ops lo (Go.Q.fr N r) w := by
  intro hok fuel listed hsz hall hnot hf
  have hhi := of_decide_eq_true hhi
  have e : listed = prefB lo ops.length := by
    unfold prefB
    apply Array.ext
    · simp [hsz]; omega
    · intro i h1 h2
      rcases Nat.lt_or_ge i lo with g | g
      · have := hall i g
        simp [h1] at this
        rw [this]; simp [List.getElem_append, g]
      · have := hnot i g
        simp [h1] at this
        rw [this]; simp [List.getElem_append, Nat.not_lt.2 g]
  subst e
  refine anyI_wp hok hbar hhi m fuel _ _ w hsz (fun i hi' => hnot i (by omega)) (fun i hi' d hd => ?_) (by omega) h
  have hil : i < lo := by
    rcases Nat.lt_or_ge i lo with g | g
    · exact g
    · rw [hnot i g] at hi'; cases hi'
  have := (flowOk3_spec hok (List.getElem?_eq_getElem (show i < ops.length by omega))).1 d hd
  exact hall d (by omega)
section
variable {hi : Nat} {K : Act → World → Prop} {I : World → Prop} {N n : Nat} {l : Array Bool} {r : Nat → Value} {w : World}
theorem a_done {a : Act} (h : allB hi l = true) (hI : I w) (hk : K a w) : anyI P ops hi K I 0 l a w := ⟨hI, h, hk⟩
theorem freeB_spec {k : Nat} (h : freeB ops hi l k = true) : Region.noSelect ops.toArray = true ∧ Region.free .any ops.toArray l k = true ∧ k ∈ Region.ready .any ops.toArray l ∧ k < hi := by
  unfold freeB at h
  simp only [Bool.and_eq_true, decide_eq_true_eq, List.contains_iff_mem] at h
  exact ⟨h.1.1.1, h.1.1.2, h.1.2, h.2⟩
theorem onlyB_spec {k : Nat} (h : onlyB ops hi l k = true) : (∀ i ∈ Region.ready .any ops.toArray l, i < hi → i = k) ∧ k ∈ Region.ready .any ops.toArray l ∧ k < hi := by
  unfold onlyB at h
  simp only [Bool.and_eq_true, decide_eq_true_eq, List.contains_iff_mem, List.all_eq_true, Bool.or_eq_true, beq_iff_eq] at h
  exact ⟨fun i hi' hlt => (h.1.1 i hi').elim id fun g => by omega, h.1.2, h.2⟩
theorem a_first {k : Nat} {o : Oper} {v : Value} {a : Act} (ho : ops[k]? = some o) (hf : freeB ops hi l k = true) (hy : YI P ops o v a I) (h : anyI P ops hi K I n (l.setIfInBounds k true) (a.put o.dst v) w) : anyI P ops hi K I (n + 1) l a w := by
  obtain ⟨h1, h2, h3, h4⟩ := freeB_spec hf
  have ho' : ops.toArray[k]? = some o := by simpa using ho
  exact anyI_first ho h4 (fun j o cs b hj => Region.noSelect_spec h1 j o cs b (by simpa using hj)) n l a w (fun j oj hj => Region.free_spec ho' h2 j oj (by simpa using hj)) h3 hy h
theorem a_op {d : Nat} {op : Op} {T : TypeId} {pos : String} {after : Array Edge} {v : Value} (k : Nat) (ho : ops[k]? = some ⟨some d, op, T, pos, after, none⟩) (hf : freeB ops hi l k = true)
    (hv : ∀ w', I w' → OK P ⟨some d, op, T, pos, after, none⟩ (ev N r) w' fun v' w'' => v' = v ∧ w'' = w') (h : anyI P ops hi K I n (l.setIfInBounds k true) (Go.Q.fr N (upd r d v)) w) : anyI P ops hi K I (n + 1) l (Go.Q.fr N r) w := by
  refine a_first ho hf (.inl ⟨by simp [Region.wanted], fun w' hI => ?_⟩) (v := v) (by rw [fr_put]; exact h)
  rw [fr_eval]; exact hv w' hI
theorem a_on {d : Nat} {op : Op} {T : TypeId} {pos : String} {after : Array Edge} {g : Nat} {b : Bool} {v : Value} (k : Nat) (ho : ops[k]? = some ⟨some d, op, T, pos, after, some (g, b)⟩) (hf : freeB ops hi l k = true) (t : Nat) (hgt : dstOf ops g = some t) (hg : ev N r (.tmp t) = .bool b)
    (hv : ∀ w', I w' → OK P ⟨some d, op, T, pos, after, some (g, b)⟩ (ev N r) w' fun v' w'' => v' = v ∧ w'' = w') (h : anyI P ops hi K I n (l.setIfInBounds k true) (Go.Q.fr N (upd r d v)) w) : anyI P ops hi K I (n + 1) l (Go.Q.fr N r) w := by
  refine a_first ho hf (.inl ⟨?_, fun w' hI => ?_⟩) (v := v) (by rw [fr_put]; exact h)
  · obtain ⟨og, h1, h2⟩ := dstOf_spec ops g hgt
    rw [wanted_fr h1 h2 hg]; simp
  · rw [fr_eval]; exact hv w' hI
theorem a_off {d : Nat} {op : Op} {T : TypeId} {pos : String} {after : Array Edge} {g : Nat} {b b' : Bool} (k : Nat) (ho : ops[k]? = some ⟨some d, op, T, pos, after, some (g, b)⟩) (hf : freeB ops hi l k = true) (t : Nat) (hgt : dstOf ops g = some t) (hg : ev N r (.tmp t) = .bool b') (hne : (b' == b) = false)
    (h : anyI P ops hi K I n (l.setIfInBounds k true) (Go.Q.fr N (upd r d undef)) w) : anyI P ops hi K I (n + 1) l (Go.Q.fr N r) w := by
  refine a_first ho hf (.inr ⟨?_, rfl⟩) (by rw [fr_put]; exact h)
  obtain ⟨og, h1, h2⟩ := dstOf_spec ops g hgt
  rw [wanted_fr h1 h2 hg, hne]
theorem a_offu {d : Nat} {op : Op} {T : TypeId} {pos : String} {after : Array Edge} {g : Nat} {b : Bool} (k : Nat) (ho : ops[k]? = some ⟨some d, op, T, pos, after, some (g, b)⟩) (hf : freeB ops hi l k = true) (t : Nat) (hgt : dstOf ops g = some t) (hg : ev N r (.tmp t) = undef)
    (h : anyI P ops hi K I n (l.setIfInBounds k true) (Go.Q.fr N (upd r d undef)) w) : anyI P ops hi K I (n + 1) l (Go.Q.fr N r) w := by
  refine a_first ho hf (.inr ⟨?_, rfl⟩) (by rw [fr_put]; exact h)
  obtain ⟨og, h1, h2⟩ := dstOf_spec ops g hgt
  have hy : yielded ops.toArray (Go.Q.fr N r).tmps g = none := by
    simp only [yielded, show ops.toArray[g]? = some og by simpa using h1, h2, Option.bind_some, fr_at]
    by_cases h : t < N
    · have hb : Nat.blt t N = true := by simpa using h
      simp only [ev, hb] at hg
      have hv' : r t = undef := hg
      rw [if_pos h, hv']; rfl
    · rw [if_neg h]
  simp [Region.wanted, hy]
theorem a_only {k : Nat} {o : Oper} {a : Act} (ho : ops[k]? = some o) (hr : onlyB ops hi l k = true) (hI : I w) (h : okOp P ops k (anyI P ops hi K I n (l.setIfInBounds k true)) a w) : anyI P ops hi K I (n + 1) l a w := by
  obtain ⟨h1, h2, h3⟩ := onlyB_spec hr
  exact ⟨hI, allB_un (ready_un h2).1 h3, fun i hi' hlt => by rw [h1 i hi' hlt]; exact h⟩
theorem a_w {d : Nat} {op : Op} {T : TypeId} {pos : String} {after : Array Edge} (k : Nat) (ho : ops[k]? = some ⟨some d, op, T, pos, after, none⟩) (hr : onlyB ops hi l k = true) (hI : I w)
    (h : OK P ⟨some d, op, T, pos, after, none⟩ (ev N r) w fun v w' => anyI P ops hi K I n (l.setIfInBounds k true) (Go.Q.fr N (upd r d v)) w') : anyI P ops hi K I (n + 1) l (Go.Q.fr N r) w := by
  refine a_only ho hr hI ⟨_, ho, .inl ⟨by simp [Region.wanted], ?_⟩⟩
  rw [fr_eval]; exact h.mono fun v w' hh => by rw [fr_put]; exact hh
def twoB (ops : List Oper) (hi : Nat) (l : Array Bool) (k k2 : Nat) : Bool := (Region.ready .any ops.toArray l).all (fun i => i == k || i == k2 || decide (hi ≤ i)) && (Region.ready .any ops.toArray l).contains k && decide (k < hi)
/-- Two that change the world are ready: whichever comes first. -/
theorem a_two {a : Act} (k k2 : Nat) (hr : twoB ops hi l k k2 = true) (hI : I w) (h1 : okOp P ops k (anyI P ops hi K I n (l.setIfInBounds k true)) a w) (h2 : okOp P ops k2 (anyI P ops hi K I n (l.setIfInBounds k2 true)) a w) : anyI P ops hi K I (n + 1) l a w := by
  unfold twoB at hr
  simp only [Bool.and_eq_true, decide_eq_true_eq, List.contains_iff_mem, List.all_eq_true, Bool.or_eq_true, beq_iff_eq] at hr
  refine ⟨hI, allB_un (ready_un hr.1.2).1 hr.2, fun i hi' hlt => ?_⟩
  rcases hr.1.1 i hi' with (e | e) | e
  · rw [e]; exact h1
  · rw [e]; exact h2
  · omega
theorem ok_w {K : Act → World → Prop} {d : Nat} {op : Op} {T : TypeId} {pos : String} {after : Array Edge} (k : Nat) (ho : ops[k]? = some ⟨some d, op, T, pos, after, none⟩)
    (h : OK P ⟨some d, op, T, pos, after, none⟩ (ev N r) w fun v w' => K (Go.Q.fr N (upd r d v)) w') : okOp P ops k K (Go.Q.fr N r) w := by
  refine ⟨_, ho, .inl ⟨by simp [Region.wanted], ?_⟩⟩
  rw [fr_eval]; exact h.mono fun v w' hh => by rw [fr_put]; exact hh
end
theorem ix_exF {α : Type} {f : α → List Value} {sz : Nat} (hf : ∀ a, (f a).length = sz) {ls : List α} {a : α} {t e : TypeId} {L : List Hp} {by_ : Nat} {v z : Value} {i : Int} (ht : P.underlying t = some (.slice e)) (hi : TI P e z sz by_)
    (hs : Sl L sz v ls.length (ls.flatMap f)) (h0 : 0 ≤ i) (ha : ls[i.toNat]? = some a) : ∃ b off, CellsAt L b off (f a) ∧ ∀ {ρ : Operand → Value} {dst : Option Tmp} {T : TypeId} {pos : String} {after : Array Edge} {g : Option (Nat × Bool)} {x y : Operand} {k : IntKind} {w : World} {K : Value → World → Prop},
      ρ x = v → ρ y = .int k i → K (.pointer (some ⟨b, off, none⟩)) w → OK P ⟨dst, .indexAddr t x y, T, pos, after, g⟩ ρ w K := by
  have hi' : i.toNat < ls.length := (List.getElem?_eq_some_iff.1 ha).1
  obtain ⟨p, cap, rfl, hnc, hcm, hl, hp⟩ := hs
  obtain ⟨b, off, rfl, hc⟩ := hp (by omega)
  have hc' : CellsAt L b (off + i.toNat * sz) (((ls.flatMap f).drop (i.toNat * sz)).take sz) := hc.sub fun j v hv => by
    rw [List.getElem?_take] at hv
    split at hv
    · rw [List.getElem?_drop] at hv; exact hv
    · cases hv
  rw [flat_part hf ls i.toNat a ha] at hc'
  refine ⟨b, _, hc', fun hx hy hK => OK.val (run_v ?_) hK⟩
  rw [hx, hy]
  simp [Instr.indexAt, asIntOf, run_underlying ht, h0, show i < ls.length by omega, hi.size, add_lit]
end
end Go.Q
namespace Go.Q
section
variable {P : Program} {ops : List Oper} {Q : Exit → Act → World → Prop}
/-- All that a done one waits for is done. -/
def Cl (ops : List Oper) (l : Array Bool) : Prop := ∀ i, l.getD i false = true → ∀ d ∈ depsOf ops i, l.getD d false = true
def anyE (P : Program) (ops : List Oper) (hi : Nat) (K : Act → World → Prop) (I : Array Bool → World → Prop) : Nat → Array Bool → Act → World → Prop
  | 0, l, a, w => I l w ∧ allB hi l = true ∧ K a w
  | n + 1, l, a, w => I l w ∧ allB hi l = false ∧ ∀ i ∈ Region.ready .any ops.toArray l, i < hi → okOp P ops i (anyE P ops hi K I n (l.setIfInBounds i true)) a w
theorem anyE.inv {hi : Nat} {K : Act → World → Prop} {I : Array Bool → World → Prop} : ∀ {n : Nat} {l : Array Bool} {a : Act} {w : World}, anyE P ops hi K I n l a w → I l w
  | 0, _, _, _, h => h.1
  | _ + 1, _, _, _, h => h.1
theorem Cl.set {l : Array Bool} (h : Cl ops l) {j : Nat} (hj : j ∈ Region.ready .any ops.toArray l) : Cl ops (l.setIfInBounds j true) := by
  intro i hi d hd
  by_cases e : j = i
  · subst e
    obtain ⟨_, o, ho, hdone⟩ := mem_ready.1 hj
    have ho' : ops[j]? = some o := by simpa using ho
    unfold depsOf at hd
    rw [ho'] at hd
    obtain ⟨e, he, heq⟩ := List.mem_filterMap.1 hd
    split at heq
    · cases heq; exact getD_set_true (hdone e (by simpa using he) (by assumption))
    · cases heq
  · rw [getD_set_ne false (show j ≠ i from e)] at hi; exact getD_set_true (h i hi d hd)
section
variable {hi k1 : Nat} {K : Act → World → Prop} {E : World} {F G : List (List Hp)} {N n : Nat} {l : Array Bool} {r : Nat → Value} {w : World}
end
end
end Go.Q
namespace Go.Q
section
variable {P : Program} {E w : World} {ss : List (List Hp)} {N : Nat} {r : Nat → Value}
theorem run_loadVarN {t : TypeId} {d : TypeDesc} {L : List Hp} {b off : Nat} {cs : List Value} {z : Value} {by_ : Nat} (ht : P.underlying t = some d) (hd : aggB d = true)
    (hi : TI P t z cs.length by_) (H : Has E w ss) (hL : L ⊆ ss.flatten) (hc : CellsAt L b off cs) : (loadVar t ⟨b, off, none⟩).run P w = .ok (.agg cs.toArray) w := by
  simp only [Sem.run_bind, Sem.run_pure, Result.andThen_ok, loadVar, run_isAgg ht, hd, if_true, hi.size]
  rw [run_loadCells_list (P := P) (w := w) ⟨b, off, none⟩ cs (fun j v hv => by rw [add_lit]; exact H.cell hL hc hv)]
  rfl
theorem c_retC1 {fn : Func} {R : Ending → World → Prop} {t : Tmp} {T : TypeId} {a : Addr} {v : Value} (hr : fn.results = #[.cell t T]) (hv : ev N r (.tmp t) = .pointer (some a)) (hl : (loadVar T a).run P w = .ok v w) (hR : R (.returned v) w) :
    bodyPost P fn R .ret (Go.Q.fr N r) w := by
  refine bodyPost_ret (v := v) ?_ rfl hR
  have e : ∀ t, (Go.Q.fr N r).tmps[t]?.getD undef = ev N r (.tmp t) := fun t => by rw [← getD_fr, Array.getD_eq_getD_getElem?]
  simp [results, hr, e, hv, asAddr, hl]
theorem c_retC2 {fn : Func} {R : Ending → World → Prop} {t u : Tmp} {T : TypeId} {a : Addr} {v x : Value} (hr : fn.results = #[.cell t T, .tmp u]) (hv : ev N r (.tmp t) = .pointer (some a)) (hl : (loadVar T a).run P w = .ok v w) (hx : ev N r (.tmp u) = x)
    (hR : R (.returned (.tuple #[v, x])) w) : bodyPost P fn R .ret (Go.Q.fr N r) w := by
  refine bodyPost_ret (v := .tuple #[v, x]) ?_ rfl hR
  have e : ∀ t, (Go.Q.fr N r).tmps[t]?.getD undef = ev N r (.tmp t) := fun t => by rw [← getD_fr, Array.getD_eq_getD_getElem?]
  simp [results, hr, e, hv, asAddr, hl, hx]
end
end Go.Q
namespace Go.Q
open Go.Proofs
set_option linter.unusedVariables false
set_option maxRecDepth 100000
attribute [local irreducible] wpList OK Code.wp
set_option maxHeartbeats 4000000 in
theorem keyf_c {E w : World} {R : List Hp} {k : Bs}  (hH : Has E w [R]) :
    Calls Tryz.prog 160 #[(S k)] w fun e w' => e = .returned (.bool (keyR k)) ∧ Has E w' [R] := by
  refine c_enter (args := [(S k)]) Tryz.func160 rfl Tryz.ntmps160 (by simp) ?_
  refine wp_seq_k fun K1 hK1 => ?_
  refine c_region ?_
  refine s_op (o_assign (v := (.bool false)) rfl ?_)
  refine s_nil ?_
  refine t_norm (hK1 _ _ ?_)
  refine wp_seq_k fun K2 hK2 => ?_
  refine c_region ?_
  refine s_op (o_move (v := (S k)) rfl ?_)
  refine s_op (o_sneq (a := k) (b := ([] : List UInt8)) rfl rfl ?_)
  refine s_op (o_move (v := (.bool (decide (k ≠ ([] : List UInt8))))) rfl ?_)
  by_cases h3 : k ≠ ([] : List UInt8)
  · -- k ≠ ([] : List UInt8)
    refine s_on 5 rfl (congrArg Value.bool (decide_eq_true h3)) (o_move (v := (S k)) rfl ?_)
    refine s_on 5 rfl (congrArg Value.bool (decide_eq_true h3)) (o_slen Tryz.underlying9 rfl ?_)
    refine s_on 5 rfl (congrArg Value.bool (decide_eq_true h3)) (o_leq (a := (k.length : Int)) (b := 8) rfl rfl ?_)
    refine s_op (o_pick_t (u := (.bool (decide ((k.length : Int) ≤ 8)))) ((rfl : _ = _).trans (congrArg Value.bool (decide_eq_true h3))) rfl ?_)
    refine s_op (o_assign (v := (.bool (decide ((k.length : Int) ≤ 8)))) rfl ?_)
    refine s_nil ?_
    refine t_norm (hK2 _ _ ?_)
    refine wp_ret ?_
    refine c_ret1 Tryz.results160  (v := (.bool (decide ((k.length : Int) ≤ 8)))) rfl ?_
    have q4 : (keyR k) = decide ((k.length : Int) ≤ 8) := by rw [Bool.eq_iff_iff]; first | (simp [keyR, h3]; done) | (simp_all [keyR]; done)
    exact ⟨by rw [q4], hH⟩
  · -- not: k ≠ ([] : List UInt8)
    refine s_off (b' := false) 5 rfl (congrArg Value.bool (decide_eq_false h3)) rfl ?_
    refine s_off (b' := false) 5 rfl (congrArg Value.bool (decide_eq_false h3)) rfl ?_
    refine s_off (b' := false) 5 rfl (congrArg Value.bool (decide_eq_false h3)) rfl ?_
    refine s_op (o_pick_f (u := (.bool false)) ((rfl : _ = _).trans (congrArg Value.bool (decide_eq_false h3))) rfl ?_)
    refine s_op (o_assign (v := (.bool false)) rfl ?_)
    refine s_nil ?_
    refine t_norm (hK2 _ _ ?_)
    refine wp_ret ?_
    refine c_ret1 Tryz.results160  (v := (.bool false)) rfl ?_
    have q5 : (keyR k) = false := by rw [Bool.eq_iff_iff]; first | (simp [keyR, h3]; done) | (simp_all [keyR]; done)
    exact ⟨by rw [q5], hH⟩
set_option maxHeartbeats 4000000 in
theorem valf_c {E w : World} {R : List Hp} {v : Bool × Bs}  (hH : Has E w [R]) :
    Calls Tryz.prog 162 #[(.agg #[(.bool v.1), (S v.2)])] w fun e w' => e = .returned (.bool (valR v)) ∧ Has E w' [R] := by
  refine c_enter (args := [(.agg #[(.bool v.1), (S v.2)])]) Tryz.func162 rfl Tryz.ntmps162 (by simp) ?_
  refine wp_seq_k fun K1 hK1 => ?_
  refine c_region ?_
  refine s_op (o_box (cs := #[(.bool v.1), (S v.2)]) rfl rfl hH fun b2 w3 hH4 => ?_)
  refine s_op (o_assign (v := (.bool false)) rfl ?_)
  refine s_nil ?_
  refine t_norm (hK1 _ _ ?_)
  refine wp_seq_k fun K5 hK5 => ?_
  refine c_region ?_
  refine s_op (o_fieldAddr (k := 1) (fun _ => by kernel_rfl) rfl ?_)
  refine s_op (o_load1 (v := (S v.2)) Tryz.underlying9 rfl rfl hH4 (seg_sub 0 rfl) (CellsAt.one rfl) ?_)
  refine s_op (o_slen Tryz.underlying9 rfl ?_)
  refine s_op (o_leq (a := (v.2.length : Int)) (b := 16) rfl rfl ?_)
  refine s_op (o_move (v := (.bool (decide ((v.2.length : Int) ≤ 16)))) rfl ?_)
  by_cases h6 : (v.2.length : Int) ≤ 16
  · -- (v.2.length : Int) ≤ 16
    refine s_on 7 rfl (congrArg Value.bool (decide_eq_true h6)) (o_fieldAddr (k := 0) (fun _ => by kernel_rfl) rfl ?_)
    refine s_on 7 rfl (congrArg Value.bool (decide_eq_true h6)) (o_load1 (v := (.bool v.1)) Tryz.underlying4 rfl rfl hH4 (seg_sub 0 rfl) (CellsAt.one rfl) ?_)
    refine s_on 7 rfl (congrArg Value.bool (decide_eq_true h6)) (o_move (v := (.bool v.1)) rfl ?_)
    rcases Bool.eq_false_or_eq_true v.1 with h7 | h7
    · -- v.1
      refine s_off (b' := true) 10 rfl (congrArg Value.bool h7) rfl ?_
      refine s_off (b' := true) 10 rfl (congrArg Value.bool h7) rfl ?_
      refine s_off (b' := true) 10 rfl (congrArg Value.bool h7) rfl ?_
      refine s_on 7 rfl (congrArg Value.bool (decide_eq_true h6)) (o_pick_t (u := (.bool true)) ((rfl : _ = _).trans (congrArg Value.bool h7)) rfl ?_)
      refine s_op (o_pick_t (u := (.bool true)) ((rfl : _ = _).trans (congrArg Value.bool (decide_eq_true h6))) rfl ?_)
      refine s_op (o_assign (v := (.bool true)) rfl ?_)
      refine s_nil ?_
      refine t_norm (hK5 _ _ ?_)
      refine wp_ret ?_
      refine c_ret1 Tryz.results162  (v := (.bool true)) rfl ?_
      have q8 : (valR v) = true := by rw [Bool.eq_iff_iff]; first | (simp [valR, h6, h7]; done) | (simp_all [valR]; done)
      have hH9 : Has E w3 [R] := (hH4.front 1 rfl).first 1 rfl
      exact ⟨by rw [q8], hH9⟩
    · -- not: v.1
      refine s_on 10 rfl (congrArg Value.bool h7) (o_fieldAddr (k := 1) (fun _ => by kernel_rfl) rfl ?_)
      refine s_on 10 rfl (congrArg Value.bool h7) (o_load1 (v := (S v.2)) Tryz.underlying9 rfl rfl hH4 (seg_sub 0 rfl) (CellsAt.one rfl) ?_)
      refine s_on 10 rfl (congrArg Value.bool h7) (o_seql (a := v.2) (b := ([] : List UInt8)) rfl rfl ?_)
      refine s_on 7 rfl (congrArg Value.bool (decide_eq_true h6)) (o_pick_f (u := (.bool (decide (v.2 = ([] : List UInt8))))) ((rfl : _ = _).trans (congrArg Value.bool h7)) rfl ?_)
      refine s_op (o_pick_t (u := (.bool (decide (v.2 = ([] : List UInt8))))) ((rfl : _ = _).trans (congrArg Value.bool (decide_eq_true h6))) rfl ?_)
      refine s_op (o_assign (v := (.bool (decide (v.2 = ([] : List UInt8))))) rfl ?_)
      refine s_nil ?_
      refine t_norm (hK5 _ _ ?_)
      refine wp_ret ?_
      refine c_ret1 Tryz.results162  (v := (.bool (decide (v.2 = ([] : List UInt8))))) rfl ?_
      have q10 : (valR v) = decide (v.2 = ([] : List UInt8)) := by rw [Bool.eq_iff_iff]; first | (simp [valR, h6, h7]; done) | (simp_all [valR]; done)
      have hH11 : Has E w3 [R] := (hH4.front 1 rfl).first 1 rfl
      exact ⟨by rw [q10], hH11⟩
  · -- not: (v.2.length : Int) ≤ 16
    refine s_off (b' := false) 7 rfl (congrArg Value.bool (decide_eq_false h6)) rfl ?_
    refine s_off (b' := false) 7 rfl (congrArg Value.bool (decide_eq_false h6)) rfl ?_
    refine s_off (b' := false) 7 rfl (congrArg Value.bool (decide_eq_false h6)) rfl ?_
    refine s_offu 10 rfl rfl ?_
    refine s_offu 10 rfl rfl ?_
    refine s_offu 10 rfl rfl ?_
    refine s_off (b' := false) 7 rfl (congrArg Value.bool (decide_eq_false h6)) rfl ?_
    refine s_op (o_pick_f (u := (.bool false)) ((rfl : _ = _).trans (congrArg Value.bool (decide_eq_false h6))) rfl ?_)
    refine s_op (o_assign (v := (.bool false)) rfl ?_)
    refine s_nil ?_
    refine t_norm (hK5 _ _ ?_)
    refine wp_ret ?_
    refine c_ret1 Tryz.results162  (v := (.bool false)) rfl ?_
    have q12 : (valR v) = false := by rw [Bool.eq_iff_iff]; first | (simp [valR, h6]; done) | (simp_all [valR]; done)
    have hH13 : Has E w3 [R] := (hH4.front 1 rfl).first 1 rfl
    exact ⟨by rw [q12], hH13⟩
set_option maxHeartbeats 4000000 in
theorem sindexf_c {E w : World} {R : List Hp} {v_l : Value} {l : List (List UInt8)} {fn : FuncId} {first cap : Array Value} {va : Value → Array Value} {c : (List UInt8) → Bool}  (hH : Has E w [R]) (h_l : Sl R 1 v_l l.length (l.map sV)) (hcl : Callable Tryz.prog fn) (hva : ∀ v, first ++ #[v] ++ cap = va v) (hcb : ∀ {w : World} (F_ : List Hp) (x_ : List UInt8), Has E w [R, F_] → Calls Tryz.prog fn (va (S x_)) w fun e w' => e = .returned (.bool (c x_)) ∧ Has E w' [R, F_]) :
    Calls Tryz.prog 184 #[v_l, (.func (.func fn) first cap)] w fun e w' => e = .returned (.int .i64 (idxG c l)) ∧ Has E w' [R] := by
  have hn_ := h_l.le
  refine c_enter (args := [v_l, (.func (.func fn) first cap)]) Tryz.func184 rfl Tryz.ntmps184 (by simp) ?_
  refine wp_seq_k fun K1 hK1 => ?_
  refine c_region ?_
  refine s_op (o_assign (v := (.int .i64 0)) rfl ?_)
  refine s_nil ?_
  refine t_norm (hK1 _ _ ?_)
  refine wp_seq_k fun K2 hK2 => ?_
  refine wp_seq_k fun K3 hK3 => ?_
  refine c_region ?_
  refine s_op (o_move (v := v_l) rfl ?_)
  refine s_op (o_lenS Tryz.underlying102 rfl h_l ?_)
  refine s_op (o_move (v := (.int .i64 0)) rfl ?_)
  refine s_nil ?_
  refine t_norm (hK3 _ _ ?_)
  refine wp_block ?_
  let I5 : Nat → (Nat → Value) → World → Prop := fun n__ r__ w__ => ∃ (k : Nat), n__ = l.length - k ∧ Has E w__ [R] ∧ (k ≤ l.length) ∧ (∀ j, j < k → ∀ y, l[j]? = some y → c y = false) ∧ r__ 0 = v_l ∧ r__ 1 = (.func (.func fn) first cap) ∧ r__ 7 = (.int .i64 ((l.length : Nat) : Int)) ∧ r__ 8 = (.int .i64 (k : Int))
  refine c_loop I5 _ ⟨0, rfl, hH, Nat.zero_le _, fun j hj => by omega, rfl, rfl, rfl, rfl⟩ ?_
  rintro n_ r8 w6 ⟨k, rfl, hH7, hk, hf, e4_0, e4_1, e4_7, e4_8⟩
  refine wp_seq_k fun K9 hK9 => ?_
  refine c_region ?_
  refine s_op (o_lss (a := (k : Int)) (b := ((l.length : Nat) : Int)) e4_8 e4_7 ?_)
  refine s_nil ?_
  refine t_norm (hK9 _ _ ?_)
  refine wp_seq_k fun K10 hK10 => ?_
  refine c_cond rfl (fun h11 => ?_) (fun h11 => ?_)
  · -- (k : Int) < ((l.length : Nat) : Int)
    refine wp_skip ?_
    refine t_norm (hK10 _ _ ?_)
    refine wp_seq_k fun K12 hK12 => ?_
    refine wp_block ?_
    refine wp_seq_k fun K13 hK13 => ?_
    refine c_region ?_
    refine s_op (o_move (v := (.int .i64 (k : Int))) e4_8 ?_)
    refine s_op (o_assign (v := (.int .i64 (k : Int))) rfl ?_)
    refine s_nil ?_
    refine t_norm (hK13 _ _ ?_)
    refine wp_seq_k fun K14 hK14 => ?_
    refine c_region ?_
    refine s_op (o_move (v := (.func (.func fn) first cap)) e4_1 ?_)
    refine s_op (o_move (v := v_l) e4_0 ?_)
    refine s_op (o_move (v := (.int .i64 (k : Int))) rfl ?_)
    obtain ⟨x18, hx19⟩ : ∃ x_, l[((k : Int)).toNat]? = some x_ := get_some (by omega)
    refine s_op (o_index1 Tryz.underlying102 ti9 rfl h_l rfl (by omega) hx19 fun b15 o16 hc17 => ?_)
    refine s_op (o_load1 (v := (S x18)) Tryz.underlying9 rfl rfl hH7 (seg_sub 0 rfl) hc17 ?_)
    refine s_op (o_callf (first := first) (captured := cap) (vs := va (S x18)) hcl rfl ((argsG1 rfl).trans (hva _)) (hcb _ x18 hH7.all1) ?_)
    rintro _ w22 ⟨rfl, hX20⟩
    refine ⟨_, rfl, ?_⟩
    have hH21 := hX20.of_all1
    refine s_nil ?_
    refine t_norm (hK14 _ _ ?_)
    refine c_condb rfl (fun h23 => ?_) (fun h23 => ?_)
    · -- c x18
      refine wp_seq_k fun K24 hK24 => ?_
      refine c_region ?_
      refine s_op (o_move (v := (.int .i64 (k : Int))) rfl ?_)
      refine s_op (o_assign (v := (.int .i64 (k : Int))) rfl ?_)
      refine s_nil ?_
      refine t_norm (hK24 _ _ ?_)
      refine wp_ret ?_
      refine b_ret (t_ret (t_ret (b_ret (t_ret (c_ret1 Tryz.results184  (v := (.int .i64 (k : Int))) rfl ?_)))))
      have q25 : idxG c l = (k : Int) := by exact idxG_some hf (show l[k]? = some _ from hx19) h23
      exact ⟨by rw [q25], hH21⟩
    · -- not: c x18
      refine wp_skip ?_
      refine b_norm ?_
      refine t_norm (hK12 _ _ ?_)
      refine c_region ?_
      refine s_op (o_add (a := (k : Int)) (b := 1) e4_8 rfl (w64 (by omega) (by omega)) ?_)
      refine s_op (o_move (v := (.int .i64 ((k : Int) + 1))) rfl ?_)
      refine s_nil ?_
      refine t_norm ⟨l.length - (k + 1), _, rfl, ?_, ?_⟩
      · omega
      · exact ⟨(k + 1), rfl, hH21, (by omega), ((fun j hj y hy => by rcases Nat.lt_or_ge j k with g | g; exact hf j g y hy; obtain rfl : j = k := (by omega); have e_ := hy.symm.trans (show l[j]? = some _ from hx19); cases e_; exact h23)), e4_0, e4_1, e4_7, rfl⟩
  · -- not: (k : Int) < ((l.length : Nat) : Int)
    refine wp_exit ?_
    refine t_exit (t_exit (x_in (?_)))
    refine t_norm (hK2 _ _ ?_)
    refine wp_seq_k fun K26 hK26 => ?_
    refine c_region ?_
    refine s_op (o_assign (v := (.int .i64 (-1))) rfl ?_)
    refine s_nil ?_
    refine t_norm (hK26 _ _ ?_)
    refine wp_ret ?_
    refine c_ret1 Tryz.results184  (v := (.int .i64 (-1))) rfl ?_
    have q27 : idxG c l = -1 := by exact idxG_none fun j x hx => hf j (by have := (List.getElem?_eq_some_iff.1 hx).1; omega) x hx
    exact ⟨by rw [q27], hH7⟩
set_option maxHeartbeats 4000000 in
theorem scontainsf_c {E w : World} {R : List Hp} {v_l : Value} {l : List (List UInt8)} {fn : FuncId} {first cap : Array Value} {va : Value → Array Value} {c : (List UInt8) → Bool}  (hH : Has E w [R]) (h_l : Sl R 1 v_l l.length (l.map sV)) (hcl : Callable Tryz.prog fn) (hva : ∀ v, first ++ #[v] ++ cap = va v) (hcb : ∀ {w : World} (F_ : List Hp) (x_ : List UInt8), Has E w [R, F_] → Calls Tryz.prog fn (va (S x_)) w fun e w' => e = .returned (.bool (c x_)) ∧ Has E w' [R, F_]) :
    Calls Tryz.prog 175 #[v_l, (.func (.func fn) first cap)] w fun e w' => e = .returned (.bool (l.any c)) ∧ Has E w' [R] := by
  refine c_enter (args := [v_l, (.func (.func fn) first cap)]) Tryz.func175 rfl Tryz.ntmps175 (by simp) ?_
  refine wp_seq_k fun K1 hK1 => ?_
  refine c_region ?_
  refine s_op (o_assign (v := (.bool false)) rfl ?_)
  refine s_nil ?_
  refine t_norm (hK1 _ _ ?_)
  refine wp_seq_k fun K2 hK2 => ?_
  refine c_region ?_
  refine s_op (o_move (v := v_l) rfl ?_)
  refine s_op (o_move (v := (.func (.func fn) first cap)) rfl ?_)
  refine s_op (o_callf (vs := #[v_l, (.func (.func fn) first cap)]) ca184 rfl (args2 rfl rfl) (sindexf_c (l := l) (c := c) (va := va) hH.all (h_l.mono (seg_sub 0 rfl)) hcl hva (cb_more (α := List UInt8) (R := R) (va := fun x_ => va (S x_)) (A := fun x_ e_ => e_ = .returned (.bool (c x_))) hcb)) ?_)
  rintro _ w5 ⟨rfl, hX3⟩
  refine ⟨_, rfl, ?_⟩
  have hH4 := hX3.of_all
  refine s_op (o_geq (a := idxG c l) (b := 0) rfl rfl ?_)
  refine s_op (o_assign (v := (.bool (decide (0 ≤ idxG c l)))) rfl ?_)
  refine s_nil ?_
  refine t_norm (hK2 _ _ ?_)
  refine wp_ret ?_
  refine c_ret1 Tryz.results175  (v := (.bool (decide (0 ≤ idxG c l)))) rfl ?_
  have q6 : l.any c = decide (0 ≤ idxG c l) := by exact idxG_any.symm
  exact ⟨by rw [q6], hH4⟩
set_option maxHeartbeats 4000000 in
theorem all1s_c {E w : World} {R : List Hp} {x : Bs} {bx : Nat}  {fn : FuncId} {first cap : Array Value} {va : Value → Array Value} {c : (List UInt8) → Bool}  (hH : Has E w [R]) (h_bx : CellsAt R bx 0 [(.func (.func fn) first cap)]) (hcl : Callable Tryz.prog fn) (hva : ∀ v, first ++ #[v] ++ cap = va v) (hcb : ∀ {w : World} (F_ : List Hp) (x_ : List UInt8), Has E w [R, F_] → Calls Tryz.prog fn (va (S x_)) w fun e w' => e = .returned (.bool (c x_)) ∧ Has E w' [R, F_]) :
    Calls Tryz.prog 176 #[(S x), (.pointer (some ⟨bx, 0, none⟩))] w fun e w' => e = .returned (.bool (notP c x)) ∧ Has E w' [R] := by
  refine c_enter (args := [(S x), (.pointer (some ⟨bx, 0, none⟩))]) Tryz.func176 rfl Tryz.ntmps176 (by simp) ?_
  refine wp_seq_k fun K1 hK1 => ?_
  refine c_region ?_
  refine s_op (o_assign (v := (.bool false)) rfl ?_)
  refine s_nil ?_
  refine t_norm (hK1 _ _ ?_)
  refine wp_seq_k fun K2 hK2 => ?_
  refine c_region ?_
  refine s_op (o_load1 (v := (.func (.func fn) first cap)) Tryz.underlying108 rfl rfl hH (seg_sub 0 rfl) h_bx ?_)
  refine s_op (o_move (v := (S x)) rfl ?_)
  refine s_op (o_callf (first := first) (captured := cap) (vs := va (S x)) hcl rfl ((argsG1 rfl).trans (hva _)) (hcb _ x hH.all1) ?_)
  rintro _ w5 ⟨rfl, hX3⟩
  refine ⟨_, rfl, ?_⟩
  have hH4 := hX3.of_all1
  refine s_op (o_not rfl ?_)
  refine s_op (o_assign (v := (.bool (!(c x)))) rfl ?_)
  refine s_nil ?_
  refine t_norm (hK2 _ _ ?_)
  refine wp_ret ?_
  refine c_ret1 Tryz.results176  (v := (.bool (!(c x)))) rfl ?_
  have q6 : (notP c x) = !(c x) := by rfl
  exact ⟨by rw [q6], hH4⟩
set_option maxHeartbeats 4000000 in
theorem alls_c {E w : World} {R : List Hp} {v_l : Value} {l : List (List UInt8)} {fn : FuncId} {first cap : Array Value} {va : Value → Array Value} {c : (List UInt8) → Bool}  (hH : Has E w [R]) (h_l : Sl R 1 v_l l.length (l.map sV)) (hcl : Callable Tryz.prog fn) (hva : ∀ v, first ++ #[v] ++ cap = va v) (hcb : ∀ {w : World} (F_ : List Hp) (x_ : List UInt8), Has E w [R, F_] → Calls Tryz.prog fn (va (S x_)) w fun e w' => e = .returned (.bool (c x_)) ∧ Has E w' [R, F_]) :
    Calls Tryz.prog 161 #[v_l, (.func (.func fn) first cap)] w fun e w' => e = .returned (.bool (l.all c)) ∧ Has E w' [R] := by
  refine c_enter (args := [v_l, (.func (.func fn) first cap)]) Tryz.func161 rfl Tryz.ntmps161 (by simp) ?_
  refine wp_seq_k fun K1 hK1 => ?_
  refine c_region ?_
  refine s_op (o_box (cs := #[(.func (.func fn) first cap)]) rfl rfl hH fun b2 w3 hH4 => ?_)
  refine s_op (o_assign (v := (.bool false)) rfl ?_)
  refine s_nil ?_
  refine t_norm (hK1 _ _ ?_)
  refine wp_seq_k fun K5 hK5 => ?_
  refine c_region ?_
  refine s_op (o_move (v := v_l) rfl ?_)
  refine s_op (o_makeFunc (vs := #[(.pointer (some ⟨b2, 0, none⟩))]) (cap1 rfl) ?_)
  refine s_op (o_callf (vs := #[v_l, (.func (.func 176) #[] #[(.pointer (some ⟨b2, 0, none⟩))])]) ca175 rfl (args2 rfl rfl) (scontainsf_c (l := l) (c := notP c) (va := fun v_ => #[v_, (.pointer (some ⟨b2, 0, none⟩))]) hH4.all (h_l.mono (seg_sub 1 rfl)) ca176 (fun _ => by simp) (fun F_ x_ h_ => Calls.frameF (all1s_c (x := x_) (c := c) (va := va) h_.all ((CellsAt.one rfl).mono (fun _ g_ => sub_l ((seg_sub 0 rfl) g_))) hcl hva (cb_mid (α := List UInt8) (va := fun x_ => va (S x_)) (A := fun x_ e_ => e_ = .returned (.bool (c x_))) hcb)))) ?_)
  rintro _ w8 ⟨rfl, hX6⟩
  refine ⟨_, rfl, ?_⟩
  have hH7 := hX6.of_all
  refine s_op (o_not rfl ?_)
  refine s_op (o_assign (v := (.bool (!(l.any (notP c))))) rfl ?_)
  refine s_nil ?_
  refine t_norm (hK5 _ _ ?_)
  refine wp_ret ?_
  refine c_ret1 Tryz.results161  (v := (.bool (!(l.any (notP c))))) rfl ?_
  have q9 : (l.all c) = !(l.any (notP c)) := by exact (any_notP c l).symm
  have hH10 : Has E w8 [R] := (hH7.front 1 rfl).first 1 rfl
  exact ⟨by rw [q9], hH10⟩
set_option maxHeartbeats 4000000 in
theorem vindexf_c {E w : World} {R : List Hp} {v_l : Value} {l : List (Bool × Bs)} {fn : FuncId} {first cap : Array Value} {va : Value → Array Value} {c : (Bool × Bs) → Bool}  (hH : Has E w [R]) (h_l : Sl R 2 v_l l.length (l.flatMap vlC)) (hcl : Callable Tryz.prog fn) (hva : ∀ v, first ++ #[v] ++ cap = va v) (hcb : ∀ {w : World} (F_ : List Hp) (x_ : Bool × Bs), Has E w [R, F_] → Calls Tryz.prog fn (va (.agg #[(.bool x_.1), (S x_.2)])) w fun e w' => e = .returned (.bool (c x_)) ∧ Has E w' [R, F_]) :
    Calls Tryz.prog 185 #[v_l, (.func (.func fn) first cap)] w fun e w' => e = .returned (.int .i64 (idxG c l)) ∧ Has E w' [R] := by
  have hn_ := h_l.le
  refine c_enter (args := [v_l, (.func (.func fn) first cap)]) Tryz.func185 rfl Tryz.ntmps185 (by simp) ?_
  refine wp_seq_k fun K1 hK1 => ?_
  refine c_region ?_
  refine s_op (o_assign (v := (.int .i64 0)) rfl ?_)
  refine s_nil ?_
  refine t_norm (hK1 _ _ ?_)
  refine wp_seq_k fun K2 hK2 => ?_
  refine wp_seq_k fun K3 hK3 => ?_
  refine c_region ?_
  refine s_op (o_move (v := v_l) rfl ?_)
  refine s_op (o_lenS Tryz.underlying202 rfl h_l ?_)
  refine s_op (o_move (v := (.int .i64 0)) rfl ?_)
  refine s_nil ?_
  refine t_norm (hK3 _ _ ?_)
  refine wp_block ?_
  let I5 : Nat → (Nat → Value) → World → Prop := fun n__ r__ w__ => ∃ (k : Nat), n__ = l.length - k ∧ Has E w__ [R] ∧ (k ≤ l.length) ∧ (∀ j, j < k → ∀ y, l[j]? = some y → c y = false) ∧ r__ 0 = v_l ∧ r__ 1 = (.func (.func fn) first cap) ∧ r__ 7 = (.int .i64 ((l.length : Nat) : Int)) ∧ r__ 8 = (.int .i64 (k : Int))
  refine c_loop I5 _ ⟨0, rfl, hH, Nat.zero_le _, fun j hj => by omega, rfl, rfl, rfl, rfl⟩ ?_
  rintro n_ r8 w6 ⟨k, rfl, hH7, hk, hf, e4_0, e4_1, e4_7, e4_8⟩
  refine wp_seq_k fun K9 hK9 => ?_
  refine c_region ?_
  refine s_op (o_lss (a := (k : Int)) (b := ((l.length : Nat) : Int)) e4_8 e4_7 ?_)
  refine s_nil ?_
  refine t_norm (hK9 _ _ ?_)
  refine wp_seq_k fun K10 hK10 => ?_
  refine c_cond rfl (fun h11 => ?_) (fun h11 => ?_)
  · -- (k : Int) < ((l.length : Nat) : Int)
    refine wp_skip ?_
    refine t_norm (hK10 _ _ ?_)
    refine wp_seq_k fun K12 hK12 => ?_
    refine wp_block ?_
    refine wp_seq_k fun K13 hK13 => ?_
    refine c_region ?_
    refine s_op (o_move (v := (.int .i64 (k : Int))) e4_8 ?_)
    refine s_op (o_assign (v := (.int .i64 (k : Int))) rfl ?_)
    refine s_nil ?_
    refine t_norm (hK13 _ _ ?_)
    refine wp_seq_k fun K14 hK14 => ?_
    refine c_region ?_
    refine s_op (o_move (v := (.func (.func fn) first cap)) e4_1 ?_)
    refine s_op (o_move (v := v_l) e4_0 ?_)
    refine s_op (o_move (v := (.int .i64 (k : Int))) rfl ?_)
    obtain ⟨x18, hx19⟩ : ∃ x_, l[((k : Int)).toNat]? = some x_ := get_some (by omega)
    refine s_op (o_indexF vlC_len Tryz.underlying202 ti62 rfl h_l rfl rfl (by omega) hx19 fun b15 o16 hc17 => ?_)
    refine s_op (o_loadN (cs := [(.bool x18.1), (S x18.2)]) Tryz.underlying62 rfl ti62 rfl hH7 (seg_sub 0 rfl) hc17 ?_)
    refine s_op (o_callf (first := first) (captured := cap) (vs := va (.agg #[(.bool x18.1), (S x18.2)])) hcl rfl ((argsG1 rfl).trans (hva _)) (hcb _ x18 hH7.all1) ?_)
    rintro _ w22 ⟨rfl, hX20⟩
    refine ⟨_, rfl, ?_⟩
    have hH21 := hX20.of_all1
    refine s_nil ?_
    refine t_norm (hK14 _ _ ?_)
    refine c_condb rfl (fun h23 => ?_) (fun h23 => ?_)
    · -- c x18
      refine wp_seq_k fun K24 hK24 => ?_
      refine c_region ?_
      refine s_op (o_move (v := (.int .i64 (k : Int))) rfl ?_)
      refine s_op (o_assign (v := (.int .i64 (k : Int))) rfl ?_)
      refine s_nil ?_
      refine t_norm (hK24 _ _ ?_)
      refine wp_ret ?_
      refine b_ret (t_ret (t_ret (b_ret (t_ret (c_ret1 Tryz.results185  (v := (.int .i64 (k : Int))) rfl ?_)))))
      have q25 : idxG c l = (k : Int) := by exact idxG_some hf (show l[k]? = some _ from hx19) h23
      exact ⟨by rw [q25], hH21⟩
    · -- not: c x18
      refine wp_skip ?_
      refine b_norm ?_
      refine t_norm (hK12 _ _ ?_)
      refine c_region ?_
      refine s_op (o_add (a := (k : Int)) (b := 1) e4_8 rfl (w64 (by omega) (by omega)) ?_)
      refine s_op (o_move (v := (.int .i64 ((k : Int) + 1))) rfl ?_)
      refine s_nil ?_
      refine t_norm ⟨l.length - (k + 1), _, rfl, ?_, ?_⟩
      · omega
      · exact ⟨(k + 1), rfl, hH21, (by omega), ((fun j hj y hy => by rcases Nat.lt_or_ge j k with g | g; exact hf j g y hy; obtain rfl : j = k := (by omega); have e_ := hy.symm.trans (show l[j]? = some _ from hx19); cases e_; exact h23)), e4_0, e4_1, e4_7, rfl⟩
  · -- not: (k : Int) < ((l.length : Nat) : Int)
    refine wp_exit ?_
    refine t_exit (t_exit (x_in (?_)))
    refine t_norm (hK2 _ _ ?_)
    refine wp_seq_k fun K26 hK26 => ?_
    refine c_region ?_
    refine s_op (o_assign (v := (.int .i64 (-1))) rfl ?_)
    refine s_nil ?_
    refine t_norm (hK26 _ _ ?_)
    refine wp_ret ?_
    refine c_ret1 Tryz.results185  (v := (.int .i64 (-1))) rfl ?_
    have q27 : idxG c l = -1 := by exact idxG_none fun j x hx => hf j (by have := (List.getElem?_eq_some_iff.1 hx).1; omega) x hx
    exact ⟨by rw [q27], hH7⟩
set_option maxHeartbeats 4000000 in
theorem vcontainsf_c {E w : World} {R : List Hp} {v_l : Value} {l : List (Bool × Bs)} {fn : FuncId} {first cap : Array Value} {va : Value → Array Value} {c : (Bool × Bs) → Bool}  (hH : Has E w [R]) (h_l : Sl R 2 v_l l.length (l.flatMap vlC)) (hcl : Callable Tryz.prog fn) (hva : ∀ v, first ++ #[v] ++ cap = va v) (hcb : ∀ {w : World} (F_ : List Hp) (x_ : Bool × Bs), Has E w [R, F_] → Calls Tryz.prog fn (va (.agg #[(.bool x_.1), (S x_.2)])) w fun e w' => e = .returned (.bool (c x_)) ∧ Has E w' [R, F_]) :
    Calls Tryz.prog 177 #[v_l, (.func (.func fn) first cap)] w fun e w' => e = .returned (.bool (l.any c)) ∧ Has E w' [R] := by
  refine c_enter (args := [v_l, (.func (.func fn) first cap)]) Tryz.func177 rfl Tryz.ntmps177 (by simp) ?_
  refine wp_seq_k fun K1 hK1 => ?_
  refine c_region ?_
  refine s_op (o_assign (v := (.bool false)) rfl ?_)
  refine s_nil ?_
  refine t_norm (hK1 _ _ ?_)
  refine wp_seq_k fun K2 hK2 => ?_
  refine c_region ?_
  refine s_op (o_move (v := v_l) rfl ?_)
  refine s_op (o_move (v := (.func (.func fn) first cap)) rfl ?_)
  refine s_op (o_callf (vs := #[v_l, (.func (.func fn) first cap)]) ca185 rfl (args2 rfl rfl) (vindexf_c (l := l) (c := c) (va := va) hH.all (h_l.mono (seg_sub 0 rfl)) hcl hva (cb_more (α := Bool × Bs) (R := R) (va := fun x_ => va (.agg #[(.bool x_.1), (S x_.2)])) (A := fun x_ e_ => e_ = .returned (.bool (c x_))) hcb)) ?_)
  rintro _ w5 ⟨rfl, hX3⟩
  refine ⟨_, rfl, ?_⟩
  have hH4 := hX3.of_all
  refine s_op (o_geq (a := idxG c l) (b := 0) rfl rfl ?_)
  refine s_op (o_assign (v := (.bool (decide (0 ≤ idxG c l)))) rfl ?_)
  refine s_nil ?_
  refine t_norm (hK2 _ _ ?_)
  refine wp_ret ?_
  refine c_ret1 Tryz.results177  (v := (.bool (decide (0 ≤ idxG c l)))) rfl ?_
  have q6 : l.any c = decide (0 ≤ idxG c l) := by exact idxG_any.symm
  exact ⟨by rw [q6], hH4⟩
set_option maxHeartbeats 4000000 in
theorem all1v_c {E w : World} {R : List Hp} {x : Bool × Bs} {bx : Nat}  {fn : FuncId} {first cap : Array Value} {va : Value → Array Value} {c : (Bool × Bs) → Bool}  (hH : Has E w [R]) (h_bx : CellsAt R bx 0 [(.func (.func fn) first cap)]) (hcl : Callable Tryz.prog fn) (hva : ∀ v, first ++ #[v] ++ cap = va v) (hcb : ∀ {w : World} (F_ : List Hp) (x_ : Bool × Bs), Has E w [R, F_] → Calls Tryz.prog fn (va (.agg #[(.bool x_.1), (S x_.2)])) w fun e w' => e = .returned (.bool (c x_)) ∧ Has E w' [R, F_]) :
    Calls Tryz.prog 178 #[(.agg #[(.bool x.1), (S x.2)]), (.pointer (some ⟨bx, 0, none⟩))] w fun e w' => e = .returned (.bool (notP c x)) ∧ Has E w' [R] := by
  refine c_enter (args := [(.agg #[(.bool x.1), (S x.2)]), (.pointer (some ⟨bx, 0, none⟩))]) Tryz.func178 rfl Tryz.ntmps178 (by simp) ?_
  refine wp_seq_k fun K1 hK1 => ?_
  refine c_region ?_
  refine s_op (o_box (cs := #[(.bool x.1), (S x.2)]) rfl rfl hH fun b2 w3 hH4 => ?_)
  refine s_op (o_assign (v := (.bool false)) rfl ?_)
  refine s_nil ?_
  refine t_norm (hK1 _ _ ?_)
  refine wp_seq_k fun K5 hK5 => ?_
  refine c_region ?_
  refine s_op (o_load1 (v := (.func (.func fn) first cap)) Tryz.underlying121 rfl rfl hH4 (seg_sub 1 rfl) h_bx ?_)
  refine s_op (o_loadN (cs := [(.bool x.1), (S x.2)]) Tryz.underlying62 rfl ti62 rfl hH4 (seg_sub 0 rfl) (CellsAt.one rfl) ?_)
  refine s_op (o_callf (first := first) (captured := cap) (vs := va (.agg #[(.bool x.1), (S x.2)])) hcl rfl ((argsG1 rfl).trans (hva _)) (hcb _ (x.1, x.2) (hH4.front 1 rfl).all1) ?_)
  rintro _ w8 ⟨rfl, hX6⟩
  refine ⟨_, rfl, ?_⟩
  have hH7 := hX6.of_all1
  refine s_op (o_not rfl ?_)
  refine s_op (o_assign (v := (.bool (!(c (x.1, x.2))))) rfl ?_)
  refine s_nil ?_
  refine t_norm (hK5 _ _ ?_)
  refine wp_ret ?_
  refine c_ret1 Tryz.results178  (v := (.bool (!(c (x.1, x.2))))) rfl ?_
  have q9 : (notP c x) = !(c (x.1, x.2)) := by rfl
  have hH10 : Has E w8 [R] := hH7.first 1 rfl
  exact ⟨by rw [q9], hH10⟩
set_option maxHeartbeats 4000000 in
theorem allv_c {E w : World} {R : List Hp} {v_l : Value} {l : List (Bool × Bs)} {fn : FuncId} {first cap : Array Value} {va : Value → Array Value} {c : (Bool × Bs) → Bool}  (hH : Has E w [R]) (h_l : Sl R 2 v_l l.length (l.flatMap vlC)) (hcl : Callable Tryz.prog fn) (hva : ∀ v, first ++ #[v] ++ cap = va v) (hcb : ∀ {w : World} (F_ : List Hp) (x_ : Bool × Bs), Has E w [R, F_] → Calls Tryz.prog fn (va (.agg #[(.bool x_.1), (S x_.2)])) w fun e w' => e = .returned (.bool (c x_)) ∧ Has E w' [R, F_]) :
    Calls Tryz.prog 163 #[v_l, (.func (.func fn) first cap)] w fun e w' => e = .returned (.bool (l.all c)) ∧ Has E w' [R] := by
  refine c_enter (args := [v_l, (.func (.func fn) first cap)]) Tryz.func163 rfl Tryz.ntmps163 (by simp) ?_
  refine wp_seq_k fun K1 hK1 => ?_
  refine c_region ?_
  refine s_op (o_box (cs := #[(.func (.func fn) first cap)]) rfl rfl hH fun b2 w3 hH4 => ?_)
  refine s_op (o_assign (v := (.bool false)) rfl ?_)
  refine s_nil ?_
  refine t_norm (hK1 _ _ ?_)
  refine wp_seq_k fun K5 hK5 => ?_
  refine c_region ?_
  refine s_op (o_move (v := v_l) rfl ?_)
  refine s_op (o_makeFunc (vs := #[(.pointer (some ⟨b2, 0, none⟩))]) (cap1 rfl) ?_)
  refine s_op (o_callf (vs := #[v_l, (.func (.func 178) #[] #[(.pointer (some ⟨b2, 0, none⟩))])]) ca177 rfl (args2 rfl rfl) (vcontainsf_c (l := l) (c := notP c) (va := fun v_ => #[v_, (.pointer (some ⟨b2, 0, none⟩))]) hH4.all (h_l.mono (seg_sub 1 rfl)) ca178 (fun _ => by simp) (fun F_ x_ h_ => Calls.frameF (all1v_c (x := x_) (c := c) (va := va) h_.all ((CellsAt.one rfl).mono (fun _ g_ => sub_l ((seg_sub 0 rfl) g_))) hcl hva (cb_mid (α := Bool × Bs) (va := fun x_ => va (.agg #[(.bool x_.1), (S x_.2)])) (A := fun x_ e_ => e_ = .returned (.bool (c x_))) hcb)))) ?_)
  rintro _ w8 ⟨rfl, hX6⟩
  refine ⟨_, rfl, ?_⟩
  have hH7 := hX6.of_all
  refine s_op (o_not rfl ?_)
  refine s_op (o_assign (v := (.bool (!(l.any (notP c))))) rfl ?_)
  refine s_nil ?_
  refine t_norm (hK5 _ _ ?_)
  refine wp_ret ?_
  refine c_ret1 Tryz.results163  (v := (.bool (!(l.any (notP c))))) rfl ?_
  have q9 : (l.all c) = !(l.any (notP c)) := by exact (any_notP c l).symm
  have hH10 : Has E w8 [R] := (hH7.front 1 rfl).first 1 rfl
  exact ⟨by rw [q9], hH10⟩
set_option maxHeartbeats 4000000 in
theorem key_c {E w : World} {R : List Hp} {v_l : Value} {l : List (List UInt8)}  (hH : Has E w [R]) (h_l : Sl R 1 v_l l.length (l.map sV)) :
    Calls Tryz.prog 137 #[v_l] w fun e w' => e = .returned (.bool (l.all keyR)) ∧ Has E w' [R] := by
  refine c_enter (args := [v_l]) Tryz.func137 rfl Tryz.ntmps137 (by simp) ?_
  refine wp_seq_k fun K1 hK1 => ?_
  refine c_region ?_
  refine s_op (o_assign (v := (.bool false)) rfl ?_)
  refine s_nil ?_
  refine t_norm (hK1 _ _ ?_)
  refine wp_seq_k fun K2 hK2 => ?_
  refine c_region ?_
  refine s_op (o_assign (v := (.func (.func 160) #[] #[])) rfl ?_)
  refine s_nil ?_
  refine t_norm (hK2 _ _ ?_)
  refine wp_seq_k fun K3 hK3 => ?_
  refine c_region ?_
  refine s_op (o_move (v := v_l) rfl ?_)
  refine s_op (o_move (v := (.func (.func 160) #[] #[])) rfl ?_)
  refine s_op (o_callf (vs := #[v_l, (.func (.func 160) #[] #[])]) ca161 rfl (args2 rfl rfl) (alls_c (l := l) (c := keyR) (va := fun v_ => #[v_]) hH.all (h_l.mono (seg_sub 0 rfl)) ca160 (fun _ => by simp) (fun F_ x_ h_ => Calls.frameF (keyf_c (k := x_) h_.all))) ?_)
  rintro _ w6 ⟨rfl, hX4⟩
  refine ⟨_, rfl, ?_⟩
  have hH5 := hX4.of_all
  refine s_op (o_assign (v := (.bool (l.all keyR))) rfl ?_)
  refine s_nil ?_
  refine t_norm (hK3 _ _ ?_)
  refine wp_ret ?_
  refine c_ret1 Tryz.results137  (v := (.bool (l.all keyR))) rfl ?_
  exact ⟨rfl, hH5⟩
set_option maxHeartbeats 4000000 in
theorem value_c {E w : World} {R : List Hp} {v_l : Value} {l : List (Bool × Bs)}  (hH : Has E w [R]) (h_l : Sl R 2 v_l l.length (l.flatMap vlC)) :
    Calls Tryz.prog 138 #[v_l] w fun e w' => e = .returned (.bool (l.all valR)) ∧ Has E w' [R] := by
  refine c_enter (args := [v_l]) Tryz.func138 rfl Tryz.ntmps138 (by simp) ?_
  refine wp_seq_k fun K1 hK1 => ?_
  refine c_region ?_
  refine s_op (o_assign (v := (.bool false)) rfl ?_)
  refine s_nil ?_
  refine t_norm (hK1 _ _ ?_)
  refine wp_seq_k fun K2 hK2 => ?_
  refine c_region ?_
  refine s_op (o_assign (v := (.func (.func 162) #[] #[])) rfl ?_)
  refine s_nil ?_
  refine t_norm (hK2 _ _ ?_)
  refine wp_seq_k fun K3 hK3 => ?_
  refine c_region ?_
  refine s_op (o_move (v := v_l) rfl ?_)
  refine s_op (o_move (v := (.func (.func 162) #[] #[])) rfl ?_)
  refine s_op (o_callf (vs := #[v_l, (.func (.func 162) #[] #[])]) ca163 rfl (args2 rfl rfl) (allv_c (l := l) (c := valR) (va := fun v_ => #[v_]) hH.all (h_l.mono (seg_sub 0 rfl)) ca162 (fun _ => by simp) (fun F_ x_ h_ => Calls.frameF (valf_c (v := x_) h_.all))) ?_)
  rintro _ w6 ⟨rfl, hX4⟩
  refine ⟨_, rfl, ?_⟩
  have hH5 := hX4.of_all
  refine s_op (o_assign (v := (.bool (l.all valR))) rfl ?_)
  refine s_nil ?_
  refine t_norm (hK3 _ _ ?_)
  refine wp_ret ?_
  refine c_ret1 Tryz.results138  (v := (.bool (l.all valR))) rfl ?_
  exact ⟨rfl, hH5⟩
set_option maxHeartbeats 4000000 in
theorem rhas_c {E w : World} {R : List Hp} {s : Bs}  (hH : Has E w [R]) :
    Calls Tryz.prog 139 #[(S s)] w fun e w' => e = .returned (.agg #[(.bool true), (S s)]) ∧ Has E w' [R] := by
  refine c_enter (args := [(S s)]) Tryz.func139 rfl Tryz.ntmps139 (by simp) ?_
  refine wp_seq_k fun K1 hK1 => ?_
  refine c_region ?_
  refine s_op (o_alloc (cs := #[(.bool false), (S ([] : List UInt8))]) ti62 rfl hH fun b2 w3 hH4 => ?_)
  refine s_nil ?_
  refine t_norm (hK1 _ _ ?_)
  refine wp_seq_k fun K5 hK5 => ?_
  refine c_region ?_
  refine s_op (o_move (v := (S s)) rfl ?_)
  refine s_op (o_sight (v := (.agg #[(.bool true), (S s)])) (fun _ => by kernel_rfl) ?_)
  refine s_eff (o_storeN (vs := [(.bool true), (S s)]) (c' := #[(.bool true), (S s)]) ti62 rfl rfl rfl rfl (by intro u hu; simp only [List.mem_cons, List.not_mem_nil, or_false] at hu; rcases hu with rfl | rfl <;> first | rfl) (by simp) (by kernel_rfl) (hH4.front 0 rfl) fun w6 hH7 => ?_)
  refine s_nil ?_
  refine t_norm (hK5 _ _ ?_)
  refine wp_ret ?_
  refine c_retC1 Tryz.results139 rfl (run_loadVarN (cs := [(.bool true), (S s)]) Tryz.underlying62 rfl ti62 hH7 (seg_sub 0 rfl) (CellsAt.one rfl)) ?_
  have hH8 : Has E w6 [R] := (hH7.front 1 rfl).first 1 rfl
  exact ⟨rfl, hH8⟩
end Go.Q
namespace Go.Q
section
variable {P : Program} {ρ : Operand → Value} {w : World} {K : Value → World → Prop} {dst : Option Tmp} {T : TypeId} {pos : String} {after : Array Edge} {g : Option (Nat × Bool)}
theorem o_sleP {t u : TypeId} {x y : Operand} {a b : Bs} (hx : ρ x = S a) (hy : ρ y = S b) (h : K (.bool (decide (¬ b < a))) w) : OK P ⟨dst, .binOp .leq t x y u, T, pos, after, g⟩ ρ w K :=
  o_sleq hx hy (by
    have e : (Op.bytesLess a b || a == b) = decide (¬ b < a) := by
      rw [Go.Proofs.bytesLess_eq, Bool.eq_iff_iff, Bool.or_eq_true, decide_eq_true_iff, decide_eq_true_iff, beq_iff_eq, List.not_lt, List.le_iff_lt_or_eq]
    rw [e]; exact h)
theorem o_sgeP {t u : TypeId} {x y : Operand} {a b : Bs} (hx : ρ x = S a) (hy : ρ y = S b) (h : K (.bool (decide (¬ a < b))) w) : OK P ⟨dst, .binOp .geq t x y u, T, pos, after, g⟩ ρ w K :=
  o_scmp (r := decide (¬ a < b)) hx hy (by
    show (Op.stringOp .geq _ _).run P w = _
    have e : (!(Op.bytesLess a b)) = decide (¬ a < b) := by
      rw [Go.Proofs.bytesLess_eq]; by_cases h : a < b <;> simp [h]
    simp only [Op.stringOp, bytes_toList]; rw [← e]; rfl) rfl h
end
theorem bs_irr (x : Bs) : ¬ x < x := List.lt_irrefl x
theorem bs_tr {x y z : Bs} (h1 : x < y) (h2 : y < z) : x < z := List.lt_trans h1 h2
end Go.Q
namespace Go.Q
open Go.MapKept
theorem modify_map {β γ : Type} (f : β → β) (g : β → γ) (z : γ) (hz : ∀ e, g (f e) = z) : ∀ (l : List β) (i : Nat), (l.modify i f).map g = (l.map g).set i z
  | [], i => by simp
  | e :: t, 0 => by simp [hz]
  | e :: t, i + 1 => by simp [modify_map f g z hz t i]
theorem Has.setMap {E w : World} {ss : List (List Hp)} {b : Nat} {o o' : Obj} (H : Has E w ([Hp.one b o] :: ss)) : Has E { w with heap := w.heap.setIfInBounds b o' } ([Hp.one b o'] :: ss) := by
  have hwb : w.heap[b]? = some o := H.at (h := Hp.one b o) (by simp) (Hp.one_at _ _)
  have hlt : b < w.heap.size := (Array.getElem?_eq_some_iff.1 hwb).1
  refine Has0.write (an := [Hp.one b o]) (an' := [Hp.one b o']) (hs := ss.flatten) H rfl rfl rfl (by simp) ?_ ?_ ?_
  · intro k hk
    have hk := hk _ (List.mem_singleton.2 rfl)
    refine .inl fun h hh => ?_
    rw [List.mem_singleton.1 hh]
    unfold Hp.one at hk ⊢
    split at hk
    · cases hk
    · rw [if_neg (by assumption)]
  · intro h hh k o hk
    rw [List.mem_singleton.1 hh] at hk
    obtain ⟨rfl, rfl⟩ := Hp.one_some hk
    simp [hlt]
  · intro k _ hk
    have hk := hk _ (List.mem_singleton.2 rfl)
    have : k ≠ b := by rintro rfl; rw [Hp.one_at] at hk; cases hk
    simp [Array.getElem?_setIfInBounds, Ne.symm this]
section ops
variable {P : Program} {ρ : Operand → Value} {E w : World} {ss : List (List Hp)} {K : Value → World → Prop} {dst : Option Tmp} {T : TypeId} {pos : String} {after : Array Edge} {g : Option (Nat × Bool)}
end ops
end Go.Q
namespace Go.Q
open Go.MapKept
section
variable {κ β : Type} [DecidableEq κ]
def lookB : List (κ × β) → κ → Nat → Option (Nat × β)
  | [], _, _ => none
  | (a, v) :: t, k, i => if k = a then some (i, v) else lookB t k (i + 1)
def getB : List (κ × β) → κ → Option β
  | [], _ => none
  | (a, v) :: t, k => if k = a then some v else getB t k
def putB : List (κ × β) → κ → β → List (κ × β)
  | [], k, v => [(k, v)]
  | (a, u) :: t, k, v => if k = a then (k, v) :: t else (a, u) :: putB t k v
theorem lookB_shift (k : κ) : ∀ (l : List (κ × β)) (i : Nat), lookB l k i = (lookB l k 0).map fun p => (p.1 + i, p.2)
  | [], _ => rfl
  | (a, v) :: t, i => by
    simp only [lookB]
    split
    · simp
    · rw [lookB_shift k t (i + 1), lookB_shift k t 1]
      cases lookB t k 0 <;> simp; omega
theorem lookB_val (k : κ) : ∀ (l : List (κ × β)) (i : Nat), (lookB l k i).map (·.2) = getB l k
  | [], _ => rfl
  | (a, v) :: t, i => by
    simp only [lookB, getB]
    split
    · rfl
    · exact lookB_val k t (i + 1)
theorem lookB_cons {a k : κ} {u v : β} {t : List (κ × β)} {i : Nat} (hne : k ≠ a) (h : lookB ((a, u) :: t) k 0 = some (i, v)) : ∃ j, i = j + 1 ∧ lookB t k 0 = some (j, v) := by
  rw [lookB, if_neg hne, lookB_shift] at h
  cases hl : lookB t k 0 with
  | none => rw [hl] at h; cases h
  | some p =>
    rw [hl] at h
    obtain ⟨j, x⟩ := p
    simp only [Option.map_some, Option.some.injEq, Prod.mk.injEq] at h
    exact ⟨j, by omega, by rw [h.2]⟩
theorem lookB_get (k : κ) : ∀ (l : List (κ × β)) (i : Nat) (v : β), lookB l k 0 = some (i, v) → l[i]? = some (k, v)
  | [], _, _, h => by cases h
  | (a, u) :: t, i, v, h => by
    by_cases g : k = a
    · rw [lookB, if_pos g] at h
      simp only [Option.some.injEq, Prod.mk.injEq] at h
      obtain ⟨rfl, rfl⟩ := h; subst g; rfl
    · obtain ⟨j, rfl, h'⟩ := lookB_cons g h
      simpa using lookB_get k t j v h'
theorem putB_at (k : κ) (v : β) : ∀ (l : List (κ × β)) (i : Nat) (u : β), lookB l k 0 = some (i, u) → putB l k v = l.set i (k, v)
  | [], _, _, h => by cases h
  | (a, x) :: t, i, u, h => by
    rw [putB]
    by_cases g : k = a
    · rw [lookB, if_pos g] at h
      simp only [Option.some.injEq, Prod.mk.injEq] at h
      obtain ⟨rfl, rfl⟩ := h; rw [if_pos g]; rfl
    · obtain ⟨j, rfl, h'⟩ := lookB_cons g h
      rw [if_neg g, putB_at k v t j u h']; rfl
theorem putB_new (k : κ) (v : β) : ∀ (l : List (κ × β)) (i : Nat), lookB l k i = none → putB l k v = l ++ [(k, v)]
  | [], _, _ => rfl
  | (a, x) :: t, i, h => by
    rw [lookB] at h
    split at h
    · cases h
    · rename_i g; rw [putB, if_neg g, putB_new k v t (i + 1) h]; rfl
theorem getB_put (k : κ) (v : β) (k' : κ) : ∀ l : List (κ × β), getB (putB l k v) k' = if k' = k then some v else getB l k'
  | [] => by simp [putB, getB]
  | (a, u) :: t => by
    rw [putB]
    split
    · rename_i h; subst h; simp only [getB]; split <;> rfl
    · rename_i h
      simp only [getB]; rw [getB_put k v k' t]
      split
      · rename_i g; rw [if_neg (fun e => h (e.symm.trans g))]
      · rfl
theorem getB_mem {k : κ} : ∀ {l : List (κ × β)}, (getB l k).isSome = true ↔ k ∈ l.map (·.1)
  | [] => by simp [getB]
  | (a, u) :: t => by
    rw [getB, List.map_cons, List.mem_cons]
    split
    · simp [*]
    · rw [getB_mem]; simp [*]
theorem getB_none {k : κ} {l : List (κ × β)} (h : k ∉ l.map (·.1)) : getB l k = none := by
  cases e : getB l k with
  | none => rfl
  | some v => exact absurd (getB_mem.1 (by rw [e]; rfl)) h
end
/-- Keys of this type are told apart at once. -/
structure KeyAt {κ : Type} [DecidableEq κ] (P : Program) (kt : TypeId) (g : κ → Value) : Prop where
  inj : ∀ a b, g a = g b → a = b
  now : ∃ d, P.underlying kt = some d ∧ (∀ a, IsKey d (g a)) ∧ ∀ a b, Instr.sameNow d (g a) (g b) = some (decide (a = b))
  bits : ∀ a, Instr.sameBits 10000 (g a) (g a) = true
section
variable {κ β : Type}
/-- The entries of a map. -/
def MapV (g : κ → Value) (f : β → Value) (es : Array MapEntry) (c : Nat) (l : List (κ × β)) : Prop := es.toList.map (fun e : MapEntry => (e.key, e.val)) = l.map (fun p => (g p.1, f p.2)) ∧ Stamped es c
theorem MapV.nil {g : κ → Value} {f : β → Value} : MapV g f #[] 0 [] := ⟨rfl, stamped_empty 0⟩
theorem MapV.empty {g : κ → Value} {f : β → Value} (c : Nat) : MapV g f #[] c [] := ⟨rfl, stamped_empty c⟩
theorem MapV.keys {g : κ → Value} {f : β → Value} {es : Array MapEntry} {c : Nat} {l : List (κ × β)} (h : MapV g f es c l) : es.toList.map (·.key) = l.map (fun p => g p.1) := by
  have := congrArg (List.map (·.1)) h.1
  simpa [List.map_map, Function.comp_def] using this
theorem MapV.nodup {g : κ → Value} {f : β → Value} {es : Array MapEntry} {c : Nat} {l : List (κ × β)} (h : MapV g f es c l) : (l.map (·.1)).Nodup := by
  have h1 := h.2.2.2
  rw [h.keys] at h1
  refine List.pairwise_map.2 ((List.pairwise_map.1 h1).imp fun hne e => hne (by rw [e]))
theorem MapV.size {g : κ → Value} {f : β → Value} {es : Array MapEntry} {c : Nat} {l : List (κ × β)} (h : MapV g f es c l) : es.size = l.length := by
  have := congrArg List.length h.1; simpa using this
end
section
variable {κ β : Type} [DecidableEq κ]
theorem findNow_key {g : κ → Value} {f : β → Value} {d : TypeDesc} (hd : ∀ a b, Instr.sameNow d (g a) (g b) = some (decide (a = b))) (k : κ) : ∀ (es : List MapEntry) (l : List (κ × β)) (i : Nat), es.map (fun e : MapEntry => (e.key, e.val)) = l.map (fun p => (g p.1, f p.2)) →
    Instr.findNow d (g k) es i = some ((lookB l k i).map fun p => (p.1, f p.2))
  | [], [], i, _ => rfl
  | [], _ :: _, i, h => by simp at h
  | _ :: _, [], i, h => by simp at h
  | e :: es, (a, v) :: l, i, h => by
    simp only [List.map_cons, List.cons.injEq, Prod.mk.injEq] at h
    obtain ⟨⟨h1, h2⟩, h3⟩ := h
    unfold Instr.findNow
    rw [h1, hd]
    by_cases e : k = a
    · rw [decide_eq_true e]; simp [lookB, e, h2]
    · rw [decide_eq_false e]; simp only
      rw [findNow_key hd k es l (i + 1) h3]; simp [lookB, e]
end
def valB {β : Type} (f : β → Value) (z : Value) : Option β → Value
  | some v => f v
  | none => z
section ops
variable {P : Program} {ρ : Operand → Value} {E w : World} {ss : List (List Hp)} {K : Value → World → Prop} {dst : Option Tmp} {T : TypeId} {pos : String} {after : Array Edge} {g : Option (Nat × Bool)}
variable {κ β : Type} [DecidableEq κ] {gk : κ → Value} {f : β → Value}
theorem o_lookupB {x y : Operand} {t kt et : TypeId} {b : Nat} {es : Array MapEntry} {c : Nat} {l : List (κ × β)} {z : Value} {sz by_ : Nat} {k : κ} {ok : Bool} (ht : P.underlying t = some (.map kt et)) (hk : KeyAt P kt gk) (hz : TI P et z sz by_)
    (hx : ρ x = .map (some b)) (hy : ρ y = gk k) (H : Has E w ss) {L : List Hp} (hL : L ⊆ ss.flatten) (hb : L = [Hp.one b (.map es c)]) (he : MapV gk f es c l)
    (hK : K (if ok then .tuple #[valB f z (getB l k), .bool (getB l k).isSome] else valB f z (getB l k)) w) :
    OK P ⟨dst, .lookup t x y ok, T, pos, after, g⟩ ρ w K := by
  have hwb := H.at (hL (by rw [hb]; exact List.mem_singleton.2 rfl)) (Hp.one_at b (.map es c))
  obtain ⟨d, hd, hik, hnow⟩ := hk.now
  refine OK.val (run_v ?_) hK
  rw [hx, hy]
  have hf := run_findKey (P := P) (w := w) hd (findNow_key (f := f) hnow k es.toList l 0 he.1)
  obtain ⟨i, hi, hiz, _, _⟩ := hz
  have hc : (Instr.checkKey es.isEmpty 10000 kt (gk k)).run P w = .ok () w := run_checkKey hd (hik k) es.isEmpty 9999
  have hg : (getObj b).run P w = .ok (.map es c) w := by simp [getObj, Sem.run, hwb]
  have hv := lookB_val (β := β) k l 0
  cases hl : lookB l k 0 with
  | none =>
    rw [hl] at hf hv
    have hv : getB l k = none := hv.symm
    rw [hv]
    cases ok <;> simp [Instr.lookup, run_underlying ht, hg, hf, hc, zeroValue, typeInfo, hi, hiz, Result.andThen, valB]
  | some p =>
    rw [hl] at hf hv
    have hv : getB l k = some p.2 := hv.symm
    rw [hv]
    cases ok <;> simp [Instr.lookup, run_underlying ht, hg, hf, hc, Result.andThen, valB]
theorem o_mapUpdateB {x y u : Operand} {t kt et : TypeId} {b : Nat} {es : Array MapEntry} {c : Nat} {l : List (κ × β)} {v : β} {k : κ} (ht : P.underlying t = some (.map kt et)) (hk : KeyAt P kt gk)
    (hx : ρ x = .map (some b)) (hy : ρ y = gk k) (hu : ρ u = f v) (H : Has E w ([Hp.one b (.map es c)] :: ss)) (he : MapV gk f es c l)
    (hK : ∀ es' c' w', MapV gk f es' c' (putB l k v) → Has E w' ([Hp.one b (.map es' c')] :: ss) → K undef w') :
    OK P ⟨dst, .mapUpdate t x y u, T, pos, after, g⟩ ρ w K := by
  have hwb : w.heap[b]? = some (.map es c) := H.at (h := Hp.one b (.map es c)) (by simp) (Hp.one_at _ _)
  obtain ⟨d, hd, hik, hnow⟩ := hk.now
  have hf := run_findKey (P := P) (w := w) hd (findNow_key (f := f) hnow k es.toList l 0 he.1)
  have hc : (Instr.checkKey false 10000 kt (gk k)).run P w = .ok () w := run_checkKey hd (hik k) false 9999
  have hg : (getObj b).run P w = .ok (.map es c) w := by simp [getObj, Sem.run, hwb]
  have hs : ∀ o, (setObj b o).run P w = .ok () { w with heap := w.heap.setIfInBounds b o } := fun o => run_setObj_map o hwb
  cases hl : lookB l k 0 with
  | none =>
    rw [hl] at hf
    refine OK.skip (w' := { w with heap := w.heap.setIfInBounds b (.map (es.push ⟨gk k, f v, c⟩) (c + 1)) }) (run_u ?_) (hK _ _ _ ⟨?_, stamped_push he.2 ?_⟩ H.setMap)
    · rw [hx, hy, hu]; simp [Instr.mapUpdate, run_underlying ht, hg, hf, hc, hs, Result.andThen]
    · rw [putB_new k v l 0 hl]; simp [he.1]
    · intro x hx e
      have h1 : x.key ∈ es.toList.map (·.key) := List.mem_map.2 ⟨x, hx, rfl⟩
      rw [he.keys, e] at h1
      obtain ⟨p, hp, hpe⟩ := List.mem_map.1 h1
      have hpk := hk.inj _ _ hpe
      have h2 := (getB_mem (k := k) (l := l)).2 (List.mem_map.2 ⟨p, hp, hpk⟩)
      rw [← lookB_val k l 0, hl] at h2; cases h2
  | some p =>
    obtain ⟨i, v0⟩ := p
    rw [hl] at hf
    have hi := lookB_get k l i v0 hl
    have hes : ∃ e, es[i]? = some e ∧ e.key = gk k := by
      have h1 : (es.toList.map (fun e : MapEntry => (e.key, e.val)))[i]? = some (gk k, f v0) := by rw [he.1, List.getElem?_map, hi]; rfl
      rw [List.getElem?_map, Option.map_eq_some_iff] at h1
      obtain ⟨e, h2, h3⟩ := h1
      exact ⟨e, by simpa using h2, congrArg Prod.fst h3⟩
    obtain ⟨e, h2, h3⟩ := hes
    have hst : (Instr.keyThatStays (gk k) (gk k)).run P w = .ok (gk k) w := by simp [Instr.keyThatStays, hk.bits k]
    refine OK.skip (w' := { w with heap := w.heap.setIfInBounds b (.map (es.modify i fun e => { e with key := gk k, val := f v }) c) }) (run_u ?_) (hK _ _ _ ⟨?_, stamped_modify he.2 i (fun e => { e with key := gk k, val := f v }) (fun _ _ => rfl) (fun e' _ h => ?_)⟩ H.setMap)
    · rw [hx, hy, hu]; simp [Instr.mapUpdate, run_underlying ht, hg, hf, hc, hs, Result.andThen, h2, h3, hst]
    · rw [putB_at k v l i v0 hl, Array.toList_modify, modify_map (fun e : MapEntry => { e with key := gk k, val := f v }) (fun e : MapEntry => (e.key, e.val)) (gk k, f v) (fun _ => rfl), he.1, List.map_set]
    · rw [h2] at h; cases h; exact h3.symm
end ops
section ops
variable {P : Program} {ρ : Operand → Value} {E w : World} {ss : List (List Hp)} {K : Value → World → Prop} {dst : Option Tmp} {T : TypeId} {pos : String} {after : Array Edge} {g : Option (Nat × Bool)}
variable {κ β : Type} {gk : κ → Value} {f : β → Value}
theorem o_clearMap {x : Operand} {t kt et : TypeId} {b : Nat} {es : Array MapEntry} {c : Nat} {l : List (κ × β)} (ht : P.underlying t = some (.map kt et))
    (hx : ρ x = .map (some b)) (H : Has E w ([Hp.one b (.map es c)] :: ss)) (he : MapV gk f es c l)
    (hK : ∀ es' c' w', MapV gk f es' c' ([] : List (κ × β)) → Has E w' ([Hp.one b (.map es' c')] :: ss) → K (.tuple #[]) w') :
    OK P ⟨dst, .call ⟨.builtin .clear, #[x], #[t]⟩, T, pos, after, g⟩ ρ w K := by
  have hwb : w.heap[b]? = some (.map es c) := H.at (h := Hp.one b (.map es c)) (by simp) (Hp.one_at _ _)
  have hg : (getObj b).run P w = .ok (.map es c) w := by simp [getObj, Sem.run, hwb]
  have hs : ∀ o, (setObj b o).run P w = .ok () { w with heap := w.heap.setIfInBounds b o } := fun o => run_setObj_map o hwb
  refine o_call_builtin (v := .tuple #[]) (w' := { w with heap := w.heap.setIfInBounds b (.map #[] c) }) ?_ (hK _ _ _ (MapV.empty c) H.setMap)
  simp [hx, builtin, Builtin.clear_, run_underlying ht, hg, hs, Result.andThen]
theorem o_lenMap {x : Operand} {t kt et : TypeId} {b : Nat} {es : Array MapEntry} {c : Nat} {l : List (κ × β)} (ht : P.underlying t = some (.map kt et))
    (hx : ρ x = .map (some b)) (H : Has E w ss) {L : List Hp} (hL : L ⊆ ss.flatten) (hb : L = [Hp.one b (.map es c)]) (he : MapV gk f es c l) (hK : K (.int .i64 l.length) w) :
    OK P ⟨dst, .call ⟨.builtin .len, #[x], #[t]⟩, T, pos, after, g⟩ ρ w K := by
  have hwb := H.at (hL (by rw [hb]; exact List.mem_singleton.2 rfl)) (Hp.one_at b (.map es c))
  have hg : (getObj b).run P w = .ok (.map es c) w := by simp [getObj, Sem.run, hwb]
  refine o_call_builtin (w' := w) ?_ hK
  simp [hx, builtin, Builtin.len_, run_underlying ht, hg, Result.andThen, goInt, he.size]
end ops
section ops
variable {P : Program} {ρ : Operand → Value} {E w : World} {ss : List (List Hp)} {K : Value → World → Prop} {dst : Option Tmp} {T : TypeId} {pos : String} {after : Array Edge} {g : Option (Nat × Bool)}
variable {κ : Type} [DecidableEq κ] {gk : κ → Value}
theorem valB_S (o : Option (List UInt8)) : valB sV (S []) o = S (o.getD []) := by cases o <;> rfl
theorem o_lookupSk {x y : Operand} {t kt et : TypeId} {b : Nat} {es : Array MapEntry} {c : Nat} {l : List (κ × List UInt8)} {sz by_ : Nat} {k : κ} (ht : P.underlying t = some (.map kt et)) (hk : KeyAt P kt gk) (hz : TI P et (S []) sz by_)
    (hx : ρ x = .map (some b)) (hy : ρ y = gk k) (H : Has E w ss) {L : List Hp} (hL : L ⊆ ss.flatten) (hb : L = [Hp.one b (.map es c)]) (he : MapV gk sV es c l)
    (hK : K (.tuple #[S ((getB l k).getD []), .bool (getB l k).isSome]) w) : OK P ⟨dst, .lookup t x y true, T, pos, after, g⟩ ρ w K :=
  o_lookupB (f := sV) ht hk hz hx hy H hL hb he (by rw [if_pos rfl, valB_S]; exact hK)
end ops
theorem key_int {P : Program} {kt : TypeId} (h : P.underlying kt = some (.int .i64)) : KeyAt P kt iV :=
  ⟨fun a b e => by simpa [iV] using e, ⟨_, h, fun _ => rfl, fun a b => by simp only [iV, Instr.sameNow, if_true]; rfl⟩, fun a => by simp [iV, Instr.sameBits]⟩
end Go.Q
namespace Go.Q
structure Pw where
  off : Bool
  armed : Bool
  left : Int
  uses : Int
def useS (p : Pw) : Pw := if p.off = true then p else ⟨p.armed && decide (p.left = 0), p.armed, p.left - 1, p.uses + 1⟩
def useB (p : Pw) : Bool := !p.off && !(useS p).off
def backS (p : Pw) : Pw := ⟨false, false, p.left, p.uses⟩
def armS (p : Pw) (n : Int) : Pw := ⟨p.off, true, max n 0, p.uses⟩
def PwOk (p : Pw) : Prop := 0 ≤ p.uses ∧ p.uses ≤ 4000000000000000000 ∧ -4000000000000000000 ≤ p.left ∧ p.left ≤ 9223372036854775807
def blankS : Bs := List.replicate 64 0
def fillS (s : Bs) : Bs := s ++ blankS.drop s.length
theorem blank_len : blankS.length = 64 := rfl
theorem fill_len {s : Bs} (h : s.length ≤ 64) : (fillS s).length = 64 := by unfold fillS; rw [List.length_append, List.length_drop, blank_len]; omega
def settleS (lo : List (Int × Bs)) (la : List Bs) (keep : List Int) : List Bs := keep.foldl (fun acc n => match getB lo n with | some s => acc.set n.toNat s | none => acc) la
theorem settle_len (lo : List (Int × Bs)) : ∀ (keep : List Int) (la : List Bs), (settleS lo la keep).length = la.length
  | [], _ => rfl
  | n :: keep, la => by
    show (settleS lo _ keep).length = _
    rw [settle_len lo keep]
    show (match getB lo n with | some s => la.set n.toNat s | none => la).length = _
    split <;> simp
theorem settle_step {lo : List (Int × Bs)} {la : List Bs} {keep : List Int} {k : Nat} {n : Int} (h : keep[k]? = some n) : settleS lo la (keep.take (k + 1)) = match getB lo n with | some s => (settleS lo la (keep.take k)).set n.toNat s | none => settleS lo la (keep.take k) := by
  unfold settleS; rw [take_succ_of h, List.foldl_append]; rfl
theorem settle_yes {lo : List (Int × Bs)} {la : List Bs} {keep : List Int} {k : Nat} {n : Int} (h : keep[k]? = some n) (g : (getB lo n).isSome = true) : settleS lo la (keep.take (k + 1)) = (settleS lo la (keep.take k)).set n.toNat ((getB lo n).getD []) := by
  rw [settle_step h]
  cases e : getB lo n with
  | none => rw [e] at g; cases g
  | some s => rfl
theorem settle_no {lo : List (Int × Bs)} {la : List Bs} {keep : List Int} {k : Nat} {n : Int} (h : keep[k]? = some n) (g : (getB lo n).isSome = false) : settleS lo la (keep.take (k + 1)) = settleS lo la (keep.take k) := by
  rw [settle_step h]
  cases e : getB lo n with
  | none => rfl
  | some s => rw [e] at g; cases g
def inS (n : Int) (k : Nat) : Prop := 0 ≤ n ∧ n < (k : Int)
instance (n : Int) (k : Nat) : Decidable (inS n k) := inferInstanceAs (Decidable (_ ∧ _))
/-- what is loose has a place, and a sector's bytes -/
def LoOk (lo : List (Int × Bs)) (k : Nat) : Prop := ∀ p ∈ lo, inS p.1 k ∧ p.2.length = 64
theorem LoOk.get {lo : List (Int × Bs)} {k : Nat} (h : LoOk lo k) {n : Int} (g : (getB lo n).isSome = true) : inS n k := by
  obtain ⟨p, hp, rfl⟩ := List.mem_map.1 (getB_mem.1 g)
  exact (h p hp).1
def keysS (lo : List (Int × Bs)) : List Int := (lo.map (·.1)).mergeSort (fun x y => decide (x ≤ y))
def readS (p : Pw) (la : List Bs) (lo : List (Int × Bs)) (n : Int) : Bs := if p.off = true then [] else if inS n la.length then (if (getB lo n).isSome = true then (getB lo n).getD [] else (la[n.toNat]?).getD []) else []
def readE (p : Pw) (la : List Bs) (n : Int) : Int := if p.off = true then 6 else if inS n la.length then 0 else 1
def writeE (p : Pw) (k : Nat) (n : Int) (s : Bs) : Int := if useB p = true then (if s.length ≤ 64 ∧ inS n k then 0 else 1) else 6
def writeS (p : Pw) (k : Nat) (lo : List (Int × Bs)) (n : Int) (s : Bs) : List (Int × Bs) := if useB p = true ∧ s.length ≤ 64 ∧ inS n k then putB lo n (fillS s) else lo
def syncE (p : Pw) : Int := if useB p = true then 0 else 6
def syncA (p : Pw) (la : List Bs) (lo : List (Int × Bs)) : List Bs := if useB p = true then settleS lo la (keysS lo) else la
def syncO (p : Pw) (lo : List (Int × Bs)) : List (Int × Bs) := if useB p = true then [] else lo
/-- two heaplets and more, told as one -/
theorem Has.open3 {E w : World} {a b c : List Hp} {ss : List (List Hp)} (H : Has E w ((a ++ (b ++ c)) :: ss)) : Has E w (a :: b :: c :: ss) := by
  unfold Has at *; simpa [List.append_assoc] using H
theorem Has.close3 {E w : World} {a b c : List Hp} {ss : List (List Hp)} (H : Has E w (a :: b :: c :: ss)) : Has E w ((a ++ (b ++ c)) :: ss) := by
  unfold Has at *; simpa [List.append_assoc] using H
theorem Has.of_all5 {E w : World} {a0 a1 a2 a3 a4 : List Hp} {ss : List (List Hp)} (H : Has E w [a0, a1, a2, a3, a4, ss.flatten]) : Has E w (a0 :: a1 :: a2 :: a3 :: a4 :: ss) := by unfold Has at *; simpa using H
end Go.Q
namespace Go.Q
def insAt {α : Type} (l : List α) (i : Nat) (p : α) : List α := l.take i ++ [p] ++ l.drop i
end Go.Q
namespace Go.Q
end Go.Q
namespace Go.Q
end Go.Q
namespace Go.Q
abbrev Cel := Bs × Bs
def ceC (c : Cel) : List Value := [S c.1, S c.2]
theorem ceC_len (c : Cel) : (ceC c).length = 2 := rfl
theorem one_ceC (l : List Cel) : ∀ u ∈ l.flatMap ceC, u.oneCell' = true := one_flat (fun p u hu => by
  simp only [ceC, List.mem_cons, List.not_mem_nil, or_false] at hu
  rcases hu with rfl | rfl <;> rfl) l
/-- in the order of their keys, each once -/
def Rises (l : List Cel) : Prop := l.Pairwise fun a b => a.1 < b.1
instance (l : List Cel) : Decidable (Rises l) := inferInstanceAs (Decidable (l.Pairwise fun a b => a.1 < b.1))
def celOk (c : Cel) : Bool := keyR c.1 && valR (true, c.2)
def cellsR (l : List Cel) : Bool := l.all celOk && decide (Rises l) && decide (l.length ≤ 8)
def pageR (no gsn : Int) (l : List Cel) : Bool := decide (0 ≤ no ∧ no < 64 ∧ 0 ≤ gsn ∧ gsn ≤ 4611686018427387903) && cellsR l
theorem cellsR_iff {l : List Cel} : cellsR l = true ↔ (∀ c ∈ l, celOk c = true) ∧ Rises l ∧ l.length ≤ 8 := by
  unfold cellsR; rw [Bool.and_eq_true, Bool.and_eq_true, List.all_eq_true, decide_eq_true_iff, decide_eq_true_iff, and_assoc]
theorem rises_snoc {l : List Cel} {c : Cel} (h : Rises l) (hl : ∀ p, l.getLast? = some p → p.1 < c.1) : Rises (l ++ [c]) := by
  refine List.pairwise_append.2 ⟨h, List.pairwise_singleton _ _, fun a ha b hb => ?_⟩
  rw [List.mem_singleton.1 hb]
  cases hz : l.getLast? with
  | none => rw [List.getLast?_eq_none_iff] at hz; subst hz; cases ha
  | some p =>
    have hp := hl p hz
    obtain ⟨q, rfl⟩ : ∃ q, l = q ++ [p] := by
      obtain ⟨q, hq⟩ := List.getLast?_eq_some_iff.1 hz
      exact ⟨q, hq⟩
    rcases List.mem_append.1 ha with e | e
    · exact bs_tr ((List.pairwise_append.1 h).2.2 a e p (List.mem_singleton.2 rfl)) hp
    · rw [List.mem_singleton.1 e]; exact hp
theorem take_last {α : Type} {l : List α} {k : Nat} {p : α} (hk : k ≤ l.length) (h : (l.take k).getLast? = some p) : 0 < k ∧ l[k - 1]? = some p := by
  rcases Nat.eq_zero_or_pos k with e | e
  · subst e; simp at h
  · rw [List.getLast?_eq_getElem?, List.length_take, Nat.min_eq_left hk, List.getElem?_take, if_pos (by omega)] at h
    exact ⟨e, h⟩
theorem cells_next {l : List Cel} {k : Nat} {c : Cel} (hx : l[k]? = some c) (h : Rises (l.take k)) (hp : ∀ p, 0 < k → l[k - 1]? = some p → p.1 < c.1) : Rises (l.take (k + 1)) := by
  have hk : k < l.length := (List.getElem?_eq_some_iff.1 hx).1
  rw [take_succ_of hx]
  exact rises_snoc h fun p hpl => (take_last (by omega) hpl).elim fun h1 h2 => hp p h1 h2
theorem all_next {l : List Cel} {k : Nat} {c : Cel} (hx : l[k]? = some c) (h : (l.take k).all celOk = true) (hc : celOk c = true) : (l.take (k + 1)).all celOk = true := by
  rw [take_succ_of hx, List.all_append, h]; simp [hc]
theorem cells_no1 {l : List Cel} {k : Nat} {c : Cel} (hx : l[k]? = some c) (h : celOk c = false) : cellsR l = false := by
  cases e : cellsR l with
  | false => rfl
  | true => rw [(cellsR_iff.1 e).1 c (List.mem_of_getElem? hx)] at h; cases h
theorem cells_no2 {l : List Cel} {k : Nat} {p c : Cel} (hk : 0 < k) (hx : l[k]? = some c) (hp : l[k - 1]? = some p) (h : ¬ p.1 < c.1) : cellsR l = false := by
  cases e : cellsR l with
  | false => rfl
  | true =>
    have hr := List.pairwise_iff_getElem.1 (cellsR_iff.1 e).2.1
    obtain ⟨h1, h2⟩ := List.getElem?_eq_some_iff.1 hx
    obtain ⟨h3, h4⟩ := List.getElem?_eq_some_iff.1 hp
    have := hr (k - 1) k h3 h1 (by omega)
    rw [h2, h4] at this
    exact absurd this h
theorem cells_end {l : List Cel} (h : l.all celOk = true) (hr : Rises l) : cellsR l = decide (l.length ≤ 8) := by
  unfold cellsR; rw [h, decide_eq_true hr]; simp
/-! ### a key's place -/
def posC (l : List Cel) (key : Bs) : Int := ((l.filter fun c => decide (c.1 < key)).length : Int)
def hasC (l : List Cel) (key : Bs) : Bool := l.any fun c => decide (c.1 = key)
/-! ### a key's value, and a page with another one -/
def getC : List Cel → Bs → Bool × Bs
  | [], _ => (false, [])
  | c :: t, key => if c.1 = key then (true, c.2) else getC t key
theorem getC_skip {l : List Cel} {key : Bs} {k : Nat} {c : Cel} {X : Bool × Bs} (h : X = getC (l.drop k) key) (hx : l[k]? = some c) (hc : ¬ c.1 = key) : X = getC (l.drop (k + 1)) key := by
  obtain ⟨h1, h2⟩ := List.getElem?_eq_some_iff.1 hx
  rw [h, List.drop_eq_getElem_cons h1, h2, getC, if_neg hc]
theorem getC_hit {l : List Cel} {key : Bs} {k : Nat} {c : Cel} {X : Bool × Bs} (h : X = getC (l.drop k) key) (hx : l[k]? = some c) (hc : c.1 = key) : X = (true, c.2) := by
  obtain ⟨h1, h2⟩ := List.getElem?_eq_some_iff.1 hx
  rw [h, List.drop_eq_getElem_cons h1, h2, getC, if_pos hc]
theorem getC_end {l : List Cel} {key : Bs} {k : Nat} {X : Bool × Bs} (h : X = getC (l.drop k) key) (hk : k = l.length) : X = (false, []) := by
  rw [h, hk, List.drop_length, getC]
/-- the cells, a key having that value, or none -/
def setC (l : List Cel) (key : Bs) (v : Bool × Bs) : List Cel :=
  if v.1 = true then (if hasC l key = true then l.set (posC l key).toNat (key, v.2) else insAt l (posC l key).toNat (key, v.2))
  else l.take (posC l key).toNat ++ l.drop ((posC l key).toNat + 1)
def setE (no gsn : Int) (l : List Cel) (key : Bs) (v : Bool × Bs) (g : Int) : Int :=
  if (pageR no gsn l && keyR key && valR v && decide (gsn < g ∧ g ≤ 4611686018427387903)) = true then
    (if v.1 = false ∧ hasC l key = false then 7 else if v.1 = true ∧ hasC l key = false ∧ 8 ≤ l.length then 4 else 0)
  else 1
end Go.Q
