/-
  Parts of a walk: what functions of the program compute, each told by a theorem (QA, QB, QNdup, QC, QD, QE, QF, QG, QH, QNums, QI, QZ, QzBase, QzSh1, QK, QKV, QJ, QX, QDel, QSets, QDev, Qzd1).
-/
import Derived.Tactics
import Derived.Orders
import Derived.Laws.Slices
import Derived.Laws.Append
import Derived.Laws.Rows
import Derived.Laws.CopyRow
import Derived.Laws.AppendOwn
import Derived.Laws.MakeOwn
import Derived.Laws.BytesString
import Derived.Laws.Pointers
import Derived.Laws.Concat
import Derived.RowKit3
import Derived.Great.BuildSlice
import Derived.Laws.OwnMore
import Derived.KernelRfl
import Derived.Maps.AppendAt
import Derived.Lib.Overlaps
import Derived.Below
import Derived.Test.YtcnfkdodgemeeaaGreatDoorProg
import Derived.Shelf.Strings.OnBuilder
import Derived.Shelf.Strings.Repeat
import Derived.Shelf.Bits.Mul64
import Derived.MapKept
set_option linter.unusedVariables false
set_option linter.unusedSimpArgs false
set_option linter.unnecessarySimpa false
namespace Go.Q

/-- A heaplet: some blocks with what they hold. -/
abbrev Hp := Nat → Option Obj
def Hp.sub (h : Hp) (w : World) : Prop := ∀ b o, h b = some o → w.heap[b]? = some o
def Hp.dis (h k : Hp) : Prop := ∀ b, h b = none ∨ k b = none
def Hp.one (b : Nat) (o : Obj) : Hp := fun x => if x = b then some o else none
def Hp.emp : Hp := fun _ => none
def Hp.of (w : World) : Hp := fun b => w.heap[b]?

theorem Hp.dis.symm {h k : Hp} (d : Hp.dis h k) : Hp.dis k h := fun b => (d b).symm
theorem Hp.one_at (b : Nat) (o : Obj) : Hp.one b o b = some o := by simp [Hp.one]
theorem Hp.one_some {b x : Nat} {o o' : Obj} (h : Hp.one b o x = some o') : x = b ∧ o' = o := by
  unfold Hp.one at h; split at h
  · exact ⟨by assumption, by simpa using h.symm⟩
  · simp at h

/-- The world has these heaplets, apart from each other; its streams are E's. -/
structure Has0 (E w : World) (hs : List Hp) : Prop where
  os : w.os = E.os
  tape : w.tape = E.tape
  output : w.output = E.output
  dj : hs.Pairwise Hp.dis
  sub : ∀ h ∈ hs, Hp.sub h w
/-- The same of lists of heaplets, one behind the other. -/
def Has (E w : World) (ss : List (List Hp)) : Prop := Has0 E w ss.flatten

theorem Has0.at {E w : World} {hs : List Hp} (H : Has0 E w hs) {h : Hp} (hh : h ∈ hs) {b : Nat} {o : Obj} (hb : h b = some o) : w.heap[b]? = some o := H.sub h hh b o hb

theorem Has0.lt {E w : World} {hs : List Hp} (H : Has0 E w hs) {h : Hp} (hh : h ∈ hs) {b : Nat} {o : Obj} (hb : h b = some o) : b < w.heap.size :=
  (Array.getElem?_eq_some_iff.1 (H.at hh hb)).1

theorem Has0.weak {E w : World} {hs ks : List Hp} (H : Has0 E w hs) (h : ks.Sublist hs) : Has0 E w ks :=
  ⟨H.os, H.tape, H.output, H.dj.sublist h, fun k hk => H.sub k (h.subset hk)⟩

theorem Has0.perm {E w : World} {hs ks : List Hp} (H : Has0 E w hs) (h : ks.Perm hs) : Has0 E w ks :=
  ⟨H.os, H.tape, H.output, (h.pairwise_iff (fun d => Hp.dis.symm d)).2 H.dj, fun k hk => H.sub k (h.subset hk)⟩

theorem Has0.drew {E w : World} {hs : List Hp} (H : Has0 E w hs) (n : Nat) : Has0 E { w with drawn := n } hs := ⟨H.os, H.tape, H.output, H.dj, H.sub⟩

/-- A new block. -/
theorem Has0.alloc {E w : World} {hs : List Hp} (H : Has0 E w hs) (o : Obj) : Has0 E { w with heap := w.heap.push o } (Hp.one w.heap.size o :: hs) := by
  refine ⟨H.os, H.tape, H.output, ?_, ?_⟩
  · refine List.pairwise_cons.2 ⟨fun k hk b => ?_, H.dj⟩
    cases hkb : k b with
    | none => exact .inr rfl
    | some o' =>
      have := H.lt hk hkb
      refine .inl ?_
      unfold Hp.one; rw [if_neg (by omega)]
  · intro k hk b o' hb
    show (w.heap.push o)[b]? = some o'
    rcases List.mem_cons.1 hk with rfl | hk
    · obtain ⟨rfl, rfl⟩ := Hp.one_some hb
      simp
    · rw [Array.getElem?_push, if_neg (by have := H.lt hk hb; omega)]
      exact H.at hk hb

/-- The front heaplets are written anew. -/
theorem Has0.write {E w w' : World} {an an' hs : List Hp} (H : Has0 E w (an ++ hs)) (os : w'.os = w.os) (tape : w'.tape = w.tape) (output : w'.output = w.output)
    (hdj : an'.Pairwise Hp.dis) (hdom : ∀ b, (∀ h ∈ an, h b = none) → (∀ h ∈ an', h b = none) ∨ w.heap.size ≤ b) (hnew : ∀ h ∈ an', Hp.sub h w')
    (hkeep : ∀ b, b < w.heap.size → (∀ h ∈ an, h b = none) → w'.heap[b]? = w.heap[b]?) : Has0 E w' (an' ++ hs) := by
  have hd := List.pairwise_append.1 H.dj
  have mr : ∀ k ∈ hs, k ∈ an ++ hs := fun k hk => List.mem_append_right _ hk
  have hno : ∀ k ∈ hs, ∀ b o, k b = some o → ∀ h ∈ an, h b = none := fun k hk b o hb h hh => by
    rcases hd.2.2 h hh k hk b with e | e
    · exact e
    · rw [hb] at e; cases e
  refine ⟨os.trans H.os, tape.trans H.tape, output.trans H.output, List.pairwise_append.2 ⟨hdj, hd.2.1, fun h hh k hk b => ?_⟩, ?_⟩
  · cases hkb : k b with
    | none => exact .inr rfl
    | some o =>
      rcases hdom b (hno k hk b o hkb) with e | e
      · exact .inl (e h hh)
      · have := H.lt (mr k hk) hkb; omega
  · intro k hk b o hb
    rcases List.mem_append.1 hk with hk | hk
    · exact hnew k hk b o hb
    · rw [hkeep b (H.lt (mr k hk) hb) (hno k hk b o hb)]; exact H.at (mr k hk) hb

theorem Has.start (w : World) : Has w w [[Hp.of w]] := ⟨rfl, rfl, rfl, by simp, by
  intro h hh; simp at hh; subst hh; exact fun b o h => h⟩
theorem Has.drew {E w : World} {ss : List (List Hp)} (H : Has E w ss) (n : Nat) : Has E { w with drawn := n } ss := Has0.drew H n
theorem Has.alloc {E w : World} {ss : List (List Hp)} (H : Has E w ss) (o : Obj) : Has E { w with heap := w.heap.push o } ([Hp.one w.heap.size o] :: ss) := Has0.alloc H o
theorem Has.drop {E w : World} {s : List Hp} {ss : List (List Hp)} (H : Has E w (s :: ss)) : Has E w ss := Has0.weak H (by simp)
theorem sublist_flatten {ts ss : List (List Hp)} (h : ts.Sublist ss) : ts.flatten.Sublist ss.flatten := by
  induction h with
  | slnil => exact .refl _
  | cons a _ ih => simp only [List.flatten_cons]; exact ih.trans (List.sublist_append_right _ _)
  | cons_cons a _ ih => simp only [List.flatten_cons]; exact List.Sublist.append (.refl _) ih
theorem Has.sub {E w : World} {ss ts : List (List Hp)} (H : Has E w ss) (h : ts.Sublist ss) : Has E w ts := Has0.weak H (sublist_flatten h)
/-- The k-th comes to the front. -/
def front (k : Nat) (ss : List (List Hp)) : List (List Hp) := match ss[k]? with | some s => s :: ss.eraseIdx k | none => ss
theorem perm_front (k : Nat) (ss : List (List Hp)) : (front k ss).Perm ss := by
  unfold front
  split
  · rename_i h hk
    have hlt : k < ss.length := (List.getElem?_eq_some_iff.1 hk).1
    have he : ss[k] = h := (List.getElem?_eq_some_iff.1 hk).2
    rw [List.eraseIdx_eq_take_drop_succ]
    have h2 : ss = ss.take k ++ h :: ss.drop (k + 1) := by
      rw [← he, ← List.drop_eq_getElem_cons hlt, List.take_append_drop]
    exact List.perm_middle.symm.trans (by rw [← h2])
  · exact .refl _
theorem Has.perm {E w : World} {ss ts : List (List Hp)} (H : Has E w ss) (h : ts.Perm ss) : Has E w ts := Has0.perm H h.flatten
theorem Has.front {E w : World} {ss ts : List (List Hp)} (H : Has E w ss) (k : Nat) (h : Q.front k ss = ts) : Has E w ts := h ▸ H.perm (perm_front k ss)
/-- Two lists are told as one, one as two. -/
theorem Has.glue {E w : World} {s t : List Hp} {ss : List (List Hp)} (H : Has E w (s :: t :: ss)) : Has E w ((s ++ t) :: ss) := by
  unfold Has at *; simpa using H
theorem Has.cut {E w : World} {s t : List Hp} {ss : List (List Hp)} (H : Has E w ((s ++ t) :: ss)) : Has E w (s :: t :: ss) := by
  unfold Has at *; simpa using H
/-- All behind the first k is told as one. -/
theorem Has.flat {E w : World} {ss : List (List Hp)} (H : Has E w ss) (k : Nat) : Has E w (ss.take k ++ [(ss.drop k).flatten]) := by
  unfold Has at *
  have e : (ss.take k ++ [(ss.drop k).flatten]).flatten = ss.flatten := by
    rw [List.flatten_append, List.flatten_cons, List.flatten_nil, List.append_nil, ← List.flatten_append, List.take_append_drop]
  rw [e]; exact H
theorem seg_sub {ss : List (List Hp)} (k : Nat) {s : List Hp} (h : ss[k]? = some s) : s ⊆ ss.flatten := fun _ hx => List.mem_flatten.2 ⟨s, List.mem_of_getElem? h, hx⟩
theorem Has.at {E w : World} {ss : List (List Hp)} (H : Has E w ss) {h : Hp} (hh : h ∈ ss.flatten) {b : Nat} {o : Obj} (hb : h b = some o) : w.heap[b]? = some o := Has0.at H hh hb

/-- What had to be shown of one operation. -/
def OK (P : Program) (o : Oper) (ρ : Operand → Value) (w : World) (K : Value → World → Prop) : Prop :=
  match (execOp ρ o).run P w with
  | .ok (.value v) w' => K v w'
  | .ok .skip w' => K undef w'
  | .ok (.enter f args) w' => Calls P f args w' fun e w'' => ∃ v, e = .returned v ∧ K v w''
  | _ => False

theorem OK.wp {P : Program} {o : Oper} {a : Act} {w : World} {next : Act → World → Prop} {Q : Exit → Act → World → Prop}
    (h : OK P o a.eval w fun v w' => next (a.put o.dst v) w') : o.wp P a w next Q := by
  unfold OK at h
  unfold Oper.wp
  generalize (execOp a.eval o).run P w = r at h
  cases r with
  | ok n w' =>
    cases n <;> simp only [Oper.upon] at h ⊢ <;> first | exact h | exact h.elim | skip
    exact h.mono fun e w'' ⟨v, he, hk⟩ => by subst he; exact hk
  | halt x w' => exact h.elim

theorem OK.mono {P : Program} {o : Oper} {ρ : Operand → Value} {w : World} {K K' : Value → World → Prop} (h : OK P o ρ w K) (hk : ∀ v w', K v w' → K' v w') : OK P o ρ w K' := by
  unfold OK at *
  generalize (execOp ρ o).run P w = r at *
  cases r with
  | ok n w' =>
    cases n <;> simp only at h ⊢ <;> first | exact hk _ _ h | exact h.elim | skip
    exact h.mono fun e w'' ⟨v, he, hh⟩ => ⟨v, he, hk _ _ hh⟩
  | halt x w' => exact h.elim

/-- A frame without deferred calls: N slots, told by a function. -/
def upd (r : Nat → Value) (d : Nat) (v : Value) : Nat → Value := fun t => bif Nat.beq t d then v else r t
def base (l : List Value) : Nat → Value := fun t => l.getD t undef
def fr (N : Nat) (r : Nat → Value) : Act := ⟨((List.range N).map r).toArray, []⟩
def ev (N : Nat) (r : Nat → Value) : Operand → Value
  | .tmp t => bif Nat.blt t N then r t else undef
  | .const v => v
  | .global g => .pointer (some ⟨g, 0, none⟩)
  | .func f => .func (.func f) #[] #[]
theorem act_ext {a b : Act} (h : a.tmps = b.tmps) (h' : a.defers = b.defers) : a = b := by cases a; cases b; cases h; cases h'; rfl
theorem upd_same (r : Nat → Value) (d : Nat) (v : Value) : upd r d v d = v := by simp [upd]
theorem upd_ne (r : Nat → Value) {d t : Nat} (v : Value) (h : t ≠ d) : upd r d v t = r t := by
  have : Nat.beq t d = false := by cases e : Nat.beq t d <;> simp_all
  simp [upd, this]
theorem fr_at (N : Nat) (r : Nat → Value) (t : Nat) : (fr N r).tmps[t]? = if t < N then some (r t) else none := by
  simp only [fr, List.getElem?_toArray, List.getElem?_map]
  by_cases h : t < N
  · rw [List.getElem?_range h, if_pos h]; rfl
  · rw [List.getElem?_eq_none (by simpa using h), if_neg h]; rfl
theorem fr_congr {N : Nat} {r r' : Nat → Value} (h : ∀ t, t < N → r t = r' t) : fr N r = fr N r' := by
  unfold fr
  rw [List.map_congr_left (g := r') (fun t ht => h t (List.mem_range.1 ht))]
theorem fr_put (N : Nat) (r : Nat → Value) (d : Nat) (v : Value) : (fr N r).put (some d) v = fr N (upd r d v) := by
  have hs : (fr N r).tmps.size = N := by simp [fr]
  have : ((fr N r).put (some d) v).tmps = (fr N (upd r d v)).tmps := by
    apply Array.ext_getElem?
    intro t
    rw [fr_at]
    simp only [Act.put, Array.getElem?_setIfInBounds, fr_at, hs]
    by_cases hd : d = t
    · subst hd; rw [if_pos rfl, upd_same]
    · rw [if_neg hd, upd_ne _ _ (Ne.symm hd)]
  exact act_ext this rfl
theorem fr_put_none (N : Nat) (r : Nat → Value) (v : Value) : (fr N r).put none v = fr N r := rfl
theorem fr_eval (N : Nat) (r : Nat → Value) : (fr N r).eval = ev N r := by
  funext x
  cases x with
  | tmp t =>
    simp only [Act.eval, ev, Array.getD_eq_getD_getElem?, fr_at]
    by_cases h : t < N
    · have : Nat.blt t N = true := by simpa using h
      rw [if_pos h, this]; rfl
    · have : Nat.blt t N = false := by
        cases e : Nat.blt t N with
        | false => rfl
        | true => exact absurd (by simpa using e) h
      rw [if_neg h, this]; rfl
  | _ => rfl
/-- A frame written out. -/
theorem fr_lit {N : Nat} {r : Nat → Value} {l : List Value} (h : (List.range N).map r = l) : fr N r = fr N (base l) := by
  refine fr_congr fun t ht => ?_
  unfold base
  rw [← h, List.getD_eq_getElem?_getD, List.getElem?_map, List.getElem?_range ht]; rfl

section steps
variable {P : Program} {ops : Array Oper} {Q : Exit → Act → World → Prop} {w : World} {rest : List Oper} {N : Nat} {r : Nat → Value}

theorem s_op {d : Nat} {op : Op} {T : TypeId} {pos : String} {after : Array Edge}
    (h : OK P ⟨some d, op, T, pos, after, none⟩ (ev N r) w fun v w' => wpList P ops Q rest (fr N (upd r d v)) w') :
    wpList P ops Q (⟨some d, op, T, pos, after, none⟩ :: rest) (fr N r) w := by
  unfold wpList
  rw [if_pos (by simp [Region.wanted])]
  refine .inl (OK.wp ?_)
  rw [fr_eval]
  exact h.mono fun v w' hk => by rw [fr_put]; exact hk

theorem s_eff {op : Op} {T : TypeId} {pos : String} {after : Array Edge}
    (h : OK P ⟨none, op, T, pos, after, none⟩ (ev N r) w fun _ w' => wpList P ops Q rest (fr N r) w') :
    wpList P ops Q (⟨none, op, T, pos, after, none⟩ :: rest) (fr N r) w := by
  unfold wpList
  rw [if_pos (by simp [Region.wanted])]
  refine .inl (OK.wp ?_)
  rw [fr_eval]
  exact h.mono fun v w' hk => hk

/-- the slot that operation g writes -/
def dstOf : List Oper → Nat → Option Tmp
  | [], _ => none
  | o :: _, 0 => o.dst
  | _ :: l, g + 1 => dstOf l g
theorem dstOf_spec : ∀ (ops : List Oper) (g : Nat) {t : Nat}, dstOf ops g = some t → ∃ og, ops.toArray[g]? = some og ∧ og.dst = some t
  | [], _, _, h => by cases h
  | o :: _, 0, t, h => ⟨o, by simp, h⟩
  | _ :: l, g + 1, t, h => by
    obtain ⟨og, h1, h2⟩ := dstOf_spec l g h
    exact ⟨og, by simpa using h1, h2⟩

theorem wanted_fr {d : Option Nat} {op : Op} {T : TypeId} {pos : String} {after : Array Edge} {g : Nat} {b b' : Bool} {og : Oper} {t : Nat}
    (hg : ops[g]? = some og) (ht : og.dst = some t) (hv : ev N r (.tmp t) = .bool b') : Region.wanted ⟨d, op, T, pos, after, some (g, b)⟩ (yielded ops (fr N r).tmps) = (b' == b) := by
  have hv' : (fr N r).tmps[t]? = some (.bool b') := by
    rw [fr_at]
    simp only [ev] at hv
    cases e : Nat.blt t N with
    | true => rw [e] at hv; rw [if_pos (by simpa using e)]; exact congrArg some hv
    | false => rw [e] at hv; cases hv
  simp only [Region.wanted, yielded, hg, ht, Option.bind_some, hv']
  cases b <;> cases b' <;> rfl

/-- An operation under a guard that lets it. -/
theorem s_on {ops : List Oper} {d : Nat} {op : Op} {T : TypeId} {pos : String} {after : Array Edge} {g : Nat} {b : Bool} (t : Nat)
    (hgt : dstOf ops g = some t) (hv : ev N r (.tmp t) = .bool b)
    (h : OK P ⟨some d, op, T, pos, after, some (g, b)⟩ (ev N r) w fun v w' => wpList P ops.toArray Q rest (fr N (upd r d v)) w') :
    wpList P ops.toArray Q (⟨some d, op, T, pos, after, some (g, b)⟩ :: rest) (fr N r) w := by
  obtain ⟨og, hg, ht⟩ := dstOf_spec ops g hgt
  unfold wpList
  rw [if_pos (by rw [wanted_fr hg ht hv]; simp)]
  refine .inl (OK.wp ?_)
  rw [fr_eval]
  exact h.mono fun v w' hk => by rw [fr_put]; exact hk

/-- An operation under a guard that doesn't let it. -/
theorem s_off {ops : List Oper} {d : Nat} {op : Op} {T : TypeId} {pos : String} {after : Array Edge} {g : Nat} {b b' : Bool} (t : Nat)
    (hgt : dstOf ops g = some t) (hv : ev N r (.tmp t) = .bool b') (hne : (b' == b) = false)
    (h : wpList P ops.toArray Q rest (fr N (upd r d undef)) w) :
    wpList P ops.toArray Q (⟨some d, op, T, pos, after, some (g, b)⟩ :: rest) (fr N r) w := by
  obtain ⟨og, hg, ht⟩ := dstOf_spec ops g hgt
  unfold wpList
  rw [if_neg (by rw [wanted_fr hg ht hv, hne]; simp), fr_put]
  exact h

theorem s_nil (h : Q .normal (fr N r) w) : wpList P ops Q [] (fr N r) w := h
end steps

section ops
variable {P : Program} {ρ : Operand → Value} {w : World} {K : Value → World → Prop} {dst : Option Tmp} {T : TypeId} {pos : String} {after : Array Edge} {g : Option (Nat × Bool)}

theorem o_move {x : Operand} {v : Value} (hx : ρ x = v) (h : K v w) : OK P ⟨dst, .move x, T, pos, after, g⟩ ρ w K := by subst hx; exact h
theorem o_assign {x : Operand} {v : Value} (hx : ρ x = v) (h : K v w) : OK P ⟨dst, .assign x, T, pos, after, g⟩ ρ w K := by subst hx; exact h
theorem o_pick {c x y : Operand} {b : Bool} {u v : Value} (hc : ρ c = .bool b) (hx : ρ x = u) (hy : ρ y = v) (h : K (if b then u else v) w) :
    OK P ⟨dst, .pick c x y, T, pos, after, g⟩ ρ w K := by
  subst hx hy
  show OK P _ ρ w K
  unfold OK
  simp only [execOp, hc, asBool, bind, pure, Sem.bind, Sem.run]
  exact h
theorem o_nilCheck {x : Operand} {a : Addr} (hx : ρ x = .pointer (some a)) (h : K (.pointer (some a)) w) : OK P ⟨dst, .nilCheck x, T, pos, after, g⟩ ρ w K := by
  unfold OK; simp only [execOp, hx, pure, Sem.run]; exact h
theorem o_not {t : TypeId} {x : Operand} {b : Bool} (hx : ρ x = .bool b) (h : K (.bool (!b)) w) : OK P ⟨dst, .unOp .not t x, T, pos, after, g⟩ ρ w K := by
  unfold OK; simp only [execOp, hx, Op.unary, bind, pure, Sem.bind, Sem.run]; exact h
theorem o_extract {x : Operand} {i : Nat} {vs : Array Value} {v : Value} (hx : ρ x = .tuple vs) (hv : vs[i]? = some v) (h : K v w) : OK P ⟨dst, .extract x i, T, pos, after, g⟩ ρ w K := by
  unfold OK; simp only [execOp, hx, Instr.extract, hv, bind, pure, Sem.bind, Sem.run]; exact h

theorem run_eqGuard_int {op : BinOp} {t : TypeId} {x y : Operand} {k k' : IntKind} {a b : Int} : (eqGuard op t x y (.int k a) (.int k' b)) = .pure () := by
  cases op <;> rfl

theorem o_bin {op : BinOp} {t u : TypeId} {x y : Operand} {k : IntKind} {a b : Int} {v : Value} (hx : ρ x = .int k a) (hy : ρ y = .int k b)
    (hr : (binOp op t (.int k a) (.int k b)).run P w = .ok v w) (h : K v w) : OK P ⟨dst, .binOp op t x y u, T, pos, after, g⟩ ρ w K := by
  unfold OK
  simp only [execOp, hx, hy, run_eqGuard_int]
  have e : (Sem.bind (Sem.bind (Sem.pure ()) fun _ => binOp op t (.int k a) (.int k b)) fun v => Sem.pure (Next.value v)).run P w = .ok (.value v) w := by
    show (Sem.bind (binOp op t (.int k a) (.int k b)) fun v => Sem.pure (Next.value v)).run P w = _
    rw [show (Sem.bind (binOp op t (.int k a) (.int k b)) fun v => Sem.pure (Next.value v)) = ((binOp op t (.int k a) (.int k b)) >>= fun v => pure (Next.value v)) from rfl]
    rw [Sem.run_bind, hr]; rfl
  show match (Sem.bind (Sem.bind (Sem.pure ()) fun _ => binOp op t (.int k a) (.int k b)) fun v => Sem.pure (Next.value v)).run P w with | .ok (.value v) w' => K v w' | .ok .skip w' => K undef w' | .ok (.enter f args) w' => _ | _ => False
  rw [e]; exact h
end ops
end Go.Q
namespace Go.Q

section ops
variable {P : Program} {ρ : Operand → Value} {w : World} {K : Value → World → Prop} {dst : Option Tmp} {T : TypeId} {pos : String} {after : Array Edge} {g : Option (Nat × Bool)}

theorem OK.val {o : Oper} {v : Value} {w' : World} (hr : (execOp ρ o).run P w = .ok (.value v) w') (h : K v w') : OK P o ρ w K := by
  unfold OK; rw [hr]; exact h
theorem OK.skip {o : Oper} {w' : World} (hr : (execOp ρ o).run P w = .ok .skip w') (h : K undef w') : OK P o ρ w K := by
  unfold OK; rw [hr]; exact h
theorem run_v {s : Sem Value} {v : Value} {w' : World} (h : s.run P w = .ok v w') : (do pure (Next.value (← s)) : Sem Next).run P w = .ok (.value v) w' := by
  rw [Sem.run_bind, h]; rfl
theorem run_u {s : Sem Unit} {w' : World} (h : s.run P w = .ok () w') : (do s; pure Next.skip : Sem Next).run P w = .ok .skip w' := by
  rw [Sem.run_bind, h]; rfl

/-- whole numbers -/
theorem o_add {t u : TypeId} {x y : Operand} {k : IntKind} {a b c : Int} (hx : ρ x = .int k a) (hy : ρ y = .int k b) (hc : k.wrap (a + b) = c) (h : K (.int k c) w) :
    OK P ⟨dst, .binOp .add t x y u, T, pos, after, g⟩ ρ w K := o_bin hx hy (by simp [binOp, Op.intArith, hc]) h
theorem o_sub {t u : TypeId} {x y : Operand} {k : IntKind} {a b c : Int} (hx : ρ x = .int k a) (hy : ρ y = .int k b) (hc : k.wrap (a - b) = c) (h : K (.int k c) w) :
    OK P ⟨dst, .binOp .sub t x y u, T, pos, after, g⟩ ρ w K := o_bin hx hy (by simp [binOp, Op.intArith, hc]) h
theorem o_mul {t u : TypeId} {x y : Operand} {k : IntKind} {a b c : Int} (hx : ρ x = .int k a) (hy : ρ y = .int k b) (hc : k.wrap (a * b) = c) (h : K (.int k c) w) :
    OK P ⟨dst, .binOp .mul t x y u, T, pos, after, g⟩ ρ w K := o_bin hx hy (by simp [binOp, Op.intArith, hc]) h
theorem o_quo {t u : TypeId} {x y : Operand} {k : IntKind} {a b c : Int} (hx : ρ x = .int k a) (hy : ρ y = .int k b) (h0 : b ≠ 0) (hc : k.wrap (a.tdiv b) = c) (h : K (.int k c) w) :
    OK P ⟨dst, .binOp .quo t x y u, T, pos, after, g⟩ ρ w K := o_bin hx hy (by simp [binOp, Op.intDiv, h0, hc]) h
theorem o_rem {t u : TypeId} {x y : Operand} {k : IntKind} {a b c : Int} (hx : ρ x = .int k a) (hy : ρ y = .int k b) (h0 : b ≠ 0) (hc : a.tmod b = c) (h : K (.int k c) w) :
    OK P ⟨dst, .binOp .rem t x y u, T, pos, after, g⟩ ρ w K := o_bin hx hy (by simp [binOp, Op.intDiv, h0, hc]) h
theorem o_and {t u : TypeId} {x y : Operand} {k : IntKind} {a b c : Int} (hx : ρ x = .int k a) (hy : ρ y = .int k b)
    (hc : k.wrap ((BitVec.ofInt k.bits a &&& BitVec.ofInt k.bits b).toNat : Int) = c) (h : K (.int k c) w) :
    OK P ⟨dst, .binOp .and t x y u, T, pos, after, g⟩ ρ w K := o_bin hx hy (by simp only [binOp, Op.intBits]; rw [if_neg (by simp)]; simp only [Sem.run_pure]; rw [hc]) h
theorem o_or {t u : TypeId} {x y : Operand} {k : IntKind} {a b c : Int} (hx : ρ x = .int k a) (hy : ρ y = .int k b)
    (hc : k.wrap ((BitVec.ofInt k.bits a ||| BitVec.ofInt k.bits b).toNat : Int) = c) (h : K (.int k c) w) :
    OK P ⟨dst, .binOp .or t x y u, T, pos, after, g⟩ ρ w K := o_bin hx hy (by simp only [binOp, Op.intBits]; rw [if_neg (by simp)]; simp only [Sem.run_pure]; rw [hc]) h
theorem o_xor {t u : TypeId} {x y : Operand} {k : IntKind} {a b c : Int} (hx : ρ x = .int k a) (hy : ρ y = .int k b)
    (hc : k.wrap ((BitVec.ofInt k.bits a ^^^ BitVec.ofInt k.bits b).toNat : Int) = c) (h : K (.int k c) w) :
    OK P ⟨dst, .binOp .xor t x y u, T, pos, after, g⟩ ρ w K := o_bin hx hy (by simp only [binOp, Op.intBits]; rw [if_neg (by simp)]; simp only [Sem.run_pure]; rw [hc]) h

theorem run_eqGuard_shift {op : BinOp} {t : TypeId} {x y : Operand} {u v : Value} (h : op = .shl ∨ op = .shr ∨ op = .add ∨ op = .lss ∨ op = .leq ∨ op = .gtr ∨ op = .geq) : eqGuard op t x y u v = .pure () := by
  rcases h with rfl | rfl | rfl | rfl | rfl | rfl | rfl <;> rfl
theorem o_shr {t u : TypeId} {x y : Operand} {k yk : IntKind} {a b c : Int} (hx : ρ x = .int k a) (hy : ρ y = .int yk b) (h0 : 0 ≤ b)
    (hc : a.fdiv (2 ^ (min b.toNat k.bits)) = c) (h : K (.int k c) w) : OK P ⟨dst, .binOp .shr t x y u, T, pos, after, g⟩ ρ w K := by
  refine OK.val (run_v ?_) h
  simp only [hx, hy, run_eqGuard_shift (op := .shr) (by simp), binOp, Op.shift]
  rw [if_neg (by omega)]
  simp [hc]
theorem o_shl {t u : TypeId} {x y : Operand} {k yk : IntKind} {a b c : Int} (hx : ρ x = .int k a) (hy : ρ y = .int yk b) (h0 : 0 ≤ b)
    (hc : k.wrap (a * 2 ^ (min b.toNat k.bits)) = c) (h : K (.int k c) w) : OK P ⟨dst, .binOp .shl t x y u, T, pos, after, g⟩ ρ w K := by
  refine OK.val (run_v ?_) h
  simp only [hx, hy, run_eqGuard_shift (op := .shl) (by simp), binOp, Op.shift]
  rw [if_neg (by omega)]
  simp [hc]

theorem o_lss {t u : TypeId} {x y : Operand} {k : IntKind} {a b : Int} (hx : ρ x = .int k a) (hy : ρ y = .int k b) (h : K (.bool (decide (a < b))) w) :
    OK P ⟨dst, .binOp .lss t x y u, T, pos, after, g⟩ ρ w K := o_bin hx hy (by simp [binOp, Op.intCmp]) h
theorem o_leq {t u : TypeId} {x y : Operand} {k : IntKind} {a b : Int} (hx : ρ x = .int k a) (hy : ρ y = .int k b) (h : K (.bool (decide (a ≤ b))) w) :
    OK P ⟨dst, .binOp .leq t x y u, T, pos, after, g⟩ ρ w K := o_bin hx hy (by simp [binOp, Op.intCmp]) h
theorem o_gtr {t u : TypeId} {x y : Operand} {k : IntKind} {a b : Int} (hx : ρ x = .int k a) (hy : ρ y = .int k b) (h : K (.bool (decide (b < a))) w) :
    OK P ⟨dst, .binOp .gtr t x y u, T, pos, after, g⟩ ρ w K := o_bin hx hy (by simp [binOp, Op.intCmp]) h
theorem o_geq {t u : TypeId} {x y : Operand} {k : IntKind} {a b : Int} (hx : ρ x = .int k a) (hy : ρ y = .int k b) (h : K (.bool (decide (b ≤ a))) w) :
    OK P ⟨dst, .binOp .geq t x y u, T, pos, after, g⟩ ρ w K := o_bin hx hy (by simp [binOp, Op.intCmp]) h
theorem o_eql {t u : TypeId} {x y : Operand} {k : IntKind} {a b : Int} (hx : ρ x = .int k a) (hy : ρ y = .int k b) (h : K (.bool (decide (a = b))) w) :
    OK P ⟨dst, .binOp .eql t x y u, T, pos, after, g⟩ ρ w K := o_bin hx hy (by
      have e : (a == b) = decide (a = b) := rfl
      simp only [binOp, Op.intCmp]; rw [if_neg (by simp)]; simp [e]) h
theorem o_neq {t u : TypeId} {x y : Operand} {k : IntKind} {a b : Int} (hx : ρ x = .int k a) (hy : ρ y = .int k b) (h : K (.bool (decide (a ≠ b))) w) :
    OK P ⟨dst, .binOp .neq t x y u, T, pos, after, g⟩ ρ w K := o_bin hx hy (by
      have e : (a != b) = decide (a ≠ b) := by by_cases h : a = b <;> simp [h]
      simp only [binOp, Op.intCmp]; rw [if_neg (by simp)]; simp [e]) h

/-- '==' and '!=' beside whole numbers -/
theorem run_equal {t : TypeId} {x y : Value} {b : Bool} (h : (Op.equalIn (9999 + 1) t x y).run P w = .ok b w) : (Op.equal t x y).run P w = .ok b w := h
theorem o_eqx {t u : TypeId} {x y : Operand} {p q : Value} {b : Bool} (hx : ρ x = p) (hy : ρ y = q) (hg : (eqGuard .eql t x y p q).run P w = .ok () w)
    (hb : binOp .eql t p q = (do pure (.bool (← Op.equal t p q)))) (he : (Op.equalIn (9999 + 1) t p q).run P w = .ok b w) (h : K (.bool b) w) :
    OK P ⟨dst, .binOp .eql t x y u, T, pos, after, g⟩ ρ w K := by
  subst hx hy
  refine OK.val (run_v ?_) h
  rw [Sem.run_bind, hg, Result.andThen_ok, hb, Sem.run_bind, run_equal he]; rfl
theorem o_nex {t u : TypeId} {x y : Operand} {p q : Value} {b : Bool} (hx : ρ x = p) (hy : ρ y = q) (hg : (eqGuard .neq t x y p q).run P w = .ok () w)
    (hb : binOp .neq t p q = (do pure (.bool (!(← Op.equal t p q))))) (he : (Op.equalIn (9999 + 1) t p q).run P w = .ok b w) (h : K (.bool (!b)) w) :
    OK P ⟨dst, .binOp .neq t x y u, T, pos, after, g⟩ ρ w K := by
  subst hx hy
  refine OK.val (run_v ?_) h
  rw [Sem.run_bind, hg, Result.andThen_ok, hb, Sem.run_bind, run_equal he]; rfl

theorem q_bool {t : TypeId} {a b : Bool} (ht : P.underlying t = some .bool) (d : Nat) : (Op.equalIn (d + 1) t (.bool a) (.bool b)).run P w = .ok (a == b) w := by
  simp [Op.equalIn, run_underlying ht]
theorem q_pnil {t e : TypeId} {p : Option Addr} (ht : P.underlying t = some (.pointer e)) (d : Nat) : (Op.equalIn (d + 1) t (.pointer p) (.pointer none)).run P w = .ok p.isNone w := by
  cases p <;> simp [Op.equalIn, run_underlying ht]
theorem q_snil {t e : TypeId} {p : Option Addr} {n c l0 c0 : Nat} (ht : P.underlying t = some (.slice e)) (d : Nat) :
    (Op.equalIn (d + 1) t (.slice p n c) (.slice none l0 c0)).run P w = .ok p.isNone w := by
  cases p <;> simp [Op.equalIn, run_underlying ht]
theorem q_mnil {t k e : TypeId} {p : Option Nat} (ht : P.underlying t = some (.map k e)) (d : Nat) :
    (Op.equalIn (d + 1) t (.map p) (.map none)).run P w = .ok p.isNone w := by
  cases p <;> simp [Op.equalIn, run_underlying ht]
theorem o_eqlb {t u : TypeId} {x y : Operand} {a b : Bool} (ht : P.underlying t = some .bool) (hx : ρ x = .bool a) (hy : ρ y = .bool b) (h : K (.bool (a == b)) w) :
    OK P ⟨dst, .binOp .eql t x y u, T, pos, after, g⟩ ρ w K := o_eqx hx hy rfl rfl (q_bool ht 9999) h
theorem o_neqb {t u : TypeId} {x y : Operand} {a b : Bool} (ht : P.underlying t = some .bool) (hx : ρ x = .bool a) (hy : ρ y = .bool b) (h : K (.bool (!(a == b))) w) :
    OK P ⟨dst, .binOp .neq t x y u, T, pos, after, g⟩ ρ w K := o_nex hx hy rfl rfl (q_bool ht 9999) h
theorem o_pnil {t u e : TypeId} {x y : Operand} {p : Option Addr} (ht : P.underlying t = some (.pointer e)) (hx : ρ x = .pointer p) (hy : ρ y = .pointer none)
    (h : K (.bool p.isNone) w) : OK P ⟨dst, .binOp .eql t x y u, T, pos, after, g⟩ ρ w K := o_eqx hx hy rfl rfl (q_pnil ht 9999) h
theorem o_pnnil {t u e : TypeId} {x y : Operand} {p : Option Addr} (ht : P.underlying t = some (.pointer e)) (hx : ρ x = .pointer p) (hy : ρ y = .pointer none)
    (h : K (.bool (!p.isNone)) w) : OK P ⟨dst, .binOp .neq t x y u, T, pos, after, g⟩ ρ w K := o_nex hx hy rfl rfl (q_pnil ht 9999) h
theorem o_snil {t u e : TypeId} {x y : Operand} {p : Option Addr} {n c l0 c0 : Nat} (ht : P.underlying t = some (.slice e)) (hx : ρ x = .slice p n c) (hy : ρ y = .slice none l0 c0)
    (h : K (.bool p.isNone) w) : OK P ⟨dst, .binOp .eql t x y u, T, pos, after, g⟩ ρ w K := o_eqx hx hy rfl rfl (q_snil ht 9999) h

/-- texts, as lists of bytes -/
def S (l : List UInt8) : Value := .string ⟨l.toArray⟩
theorem S_of (s : ByteArray) : Value.string s = S s.data.toList := by simp [S]
theorem bytes_toList (l : List UInt8) : (⟨l.toArray⟩ : ByteArray).toList = l := by
  have key : ∀ (n i : Nat) (r : List UInt8), l.length - i = n → i ≤ l.length → ByteArray.toList.loop (⟨l.toArray⟩ : ByteArray) i r = r.reverse ++ l.drop i := by
    intro n
    induction n with
    | zero =>
      intro i r hn hi
      unfold ByteArray.toList.loop
      have hs : (⟨l.toArray⟩ : ByteArray).size = l.length := by simp [ByteArray.size]
      rw [if_neg (by rw [hs]; omega), List.drop_eq_nil_of_le (by omega)]; simp
    | succ n ih =>
      intro i r hn hi
      unfold ByteArray.toList.loop
      have hs : (⟨l.toArray⟩ : ByteArray).size = l.length := by simp [ByteArray.size]
      have hlt : i < l.length := by omega
      rw [if_pos (by rw [hs]; omega), ih (i + 1) _ (by omega) (by omega), List.drop_eq_getElem_cons hlt]
      simp [ByteArray.get!, hlt]
  have := key l.length 0 [] (by omega) (by omega)
  simpa [ByteArray.toList] using this

theorem bytes_size (l : List UInt8) : (⟨l.toArray⟩ : ByteArray).size = l.length := by simp [ByteArray.size]
theorem bytes_append (a b : List UInt8) : (⟨a.toArray⟩ : ByteArray) ++ ⟨b.toArray⟩ = ⟨(a ++ b).toArray⟩ := by
  apply ByteArray.ext; simp
theorem o_sadd {t u : TypeId} {x y : Operand} {a b : List UInt8} (hx : ρ x = S a) (hy : ρ y = S b) (hl : a.length + b.length ≤ 9223372036854775807) (h : K (S (a ++ b)) w) :
    OK P ⟨dst, .binOp .add t x y u, T, pos, after, g⟩ ρ w K := by
  refine OK.val (run_v ?_) h
  simp only [hx, hy, S]
  have := run_string_add_sum (P := P) (w := w) ⟨a.toArray⟩ ⟨b.toArray⟩ (by rw [bytes_size, bytes_size]; exact hl)
  rw [bytes_append] at this
  exact this
theorem o_scmp {op : BinOp} {t u : TypeId} {x y : Operand} {a b : List UInt8} {r : Bool} (hx : ρ x = S a) (hy : ρ y = S b)
    (hr : (binOp op t (S a) (S b)).run P w = .ok (.bool r) w) (hg : eqGuard op t x y (S a) (S b) = .pure ()) (h : K (.bool r) w) :
    OK P ⟨dst, .binOp op t x y u, T, pos, after, g⟩ ρ w K := by
  refine OK.val (run_v ?_) h
  rw [hx, hy, hg]
  exact hr
theorem o_seql {t u : TypeId} {x y : Operand} {a b : List UInt8} (hx : ρ x = S a) (hy : ρ y = S b) (h : K (.bool (decide (a = b))) w) :
    OK P ⟨dst, .binOp .eql t x y u, T, pos, after, g⟩ ρ w K := o_scmp hx hy (by
      show (Op.stringOp .eql _ _).run P w = _
      simp only [Op.stringOp, bytes_toList]
      have e : (a == b) = decide (a = b) := by by_cases h : a = b <;> simp [h]
      rw [e]; rfl) rfl h
theorem o_sneq {t u : TypeId} {x y : Operand} {a b : List UInt8} (hx : ρ x = S a) (hy : ρ y = S b) (h : K (.bool (decide (a ≠ b))) w) :
    OK P ⟨dst, .binOp .neq t x y u, T, pos, after, g⟩ ρ w K := o_scmp hx hy (by
      show (Op.stringOp .neq _ _).run P w = _
      simp only [Op.stringOp, bytes_toList]
      have e : (!(a == b)) = decide (a ≠ b) := by by_cases h : a = b <;> simp [h]
      rw [e]; rfl) rfl h
theorem o_slss {t u : TypeId} {x y : Operand} {a b : List UInt8} (hx : ρ x = S a) (hy : ρ y = S b) (h : K (.bool (Op.bytesLess a b)) w) :
    OK P ⟨dst, .binOp .lss t x y u, T, pos, after, g⟩ ρ w K := o_scmp hx hy (by
      show (Op.stringOp .lss _ _).run P w = _
      simp only [Op.stringOp, bytes_toList]; rfl) rfl h
theorem o_sleq {t u : TypeId} {x y : Operand} {a b : List UInt8} (hx : ρ x = S a) (hy : ρ y = S b) (h : K (.bool (Op.bytesLess a b || a == b)) w) :
    OK P ⟨dst, .binOp .leq t x y u, T, pos, after, g⟩ ρ w K := o_scmp hx hy (by
      show (Op.stringOp .leq _ _).run P w = _
      simp only [Op.stringOp, bytes_toList]; rfl) rfl h
/-- len -/
theorem o_call_builtin {b : Builtin} {args : Array Operand} {ts : Array TypeId} {v : Value} {w' : World}
    (hr : (builtin b ts T (args.map fun | .const _ => true | _ => false) (args.map ρ)).run P w = .ok (.value v) w') (h : K v w') :
    OK P ⟨dst, .call ⟨.builtin b, args, ts⟩, T, pos, after, g⟩ ρ w K := by
  refine OK.val ?_ h
  show (Sem.bind (Sem.bind (Sem.pure _) _) _).run P w = _
  exact hr
theorem o_slen {x : Operand} {t : TypeId} {a : List UInt8} (ht : P.underlying t = some .string) (hx : ρ x = S a) (h : K (.int .i64 a.length) w) :
    OK P ⟨dst, .call ⟨.builtin .len, #[x], #[t]⟩, T, pos, after, g⟩ ρ w K := by
  refine o_call_builtin ?_ h
  simp [hx, S, builtin, Builtin.len_, run_underlying ht, goInt, bytes_size]
theorem o_len {x : Operand} {t e : TypeId} {p : Option Addr} {n c : Nat} (ht : P.underlying t = some (.slice e)) (hx : ρ x = .slice p n c) (h : K (.int .i64 n) w) :
    OK P ⟨dst, .call ⟨.builtin .len, #[x], #[t]⟩, T, pos, after, g⟩ ρ w K := by
  refine o_call_builtin ?_ h
  simp [hx, builtin, Builtin.len_, run_underlying ht, goInt]
theorem o_cap {x : Operand} {t e : TypeId} {p : Option Addr} {n c : Nat} (ht : P.underlying t = some (.slice e)) (hx : ρ x = .slice p n c) (h : K (.int .i64 c) w) :
    OK P ⟨dst, .call ⟨.builtin .cap, #[x], #[t]⟩, T, pos, after, g⟩ ρ w K := by
  refine o_call_builtin ?_ h
  simp [hx, builtin, Builtin.cap_, run_underlying ht, goInt]
theorem o_max {x y : Operand} {t u : TypeId} {k k' : IntKind} {a b : Int} (hx : ρ x = .int k a) (hy : ρ y = .int k' b) (h : K (.int k (max a b)) w) :
    OK P ⟨dst, .call ⟨.builtin .max, #[x, y], #[t, u]⟩, T, pos, after, g⟩ ρ w K := by
  refine o_call_builtin ?_ h
  have e : (if b > a then b else a) = max a b := by split <;> omega
  simp [hx, hy, builtin, Builtin.max_, Builtin.max2, e]
theorem o_min {x y : Operand} {t u : TypeId} {k k' : IntKind} {a b : Int} (hx : ρ x = .int k a) (hy : ρ y = .int k' b) (h : K (.int k (min a b)) w) :
    OK P ⟨dst, .call ⟨.builtin .min, #[x, y], #[t, u]⟩, T, pos, after, g⟩ ρ w K := by
  refine o_call_builtin ?_ h
  have e : (if b < a then b else a) = min a b := by split <;> omega
  simp [hx, hy, builtin, Builtin.min_, Builtin.min2, e]
/-- a number of another kind -/
theorem o_conv {s t : TypeId} {x : Operand} {k k' : IntKind} {a c : Int} {ds : TypeDesc} (hs : P.underlying s = some ds) (ht : P.underlying t = some (.int k)) (hx : ρ x = .int k' a)
    (hc : k.wrap a = c) (h : K (.int k c) w) : OK P ⟨dst, .convert s t x, T, pos, after, g⟩ ρ w K := by
  refine OK.val (run_v ?_) h
  rw [hx]
  rw [← hc]
  cases ds <;> simp [convert, run_underlying hs, run_underlying ht, Conv.intToInt]
/-- s[i] of a text -/
theorem o_sidx {t : TypeId} {x y : Operand} {a : List UInt8} {k : IntKind} {i : Int} {b : UInt8} (ht : P.underlying t = some .string) (hx : ρ x = S a) (hy : ρ y = .int k i)
    (h0 : 0 ≤ i) (hb : a[i.toNat]? = some b) (h : K (.int .u8 b.toNat) w) : OK P ⟨dst, .index t x y, T, pos, after, g⟩ ρ w K := by
  refine OK.val (run_v ?_) h
  have e : (⟨a.toArray⟩ : ByteArray)[i.toNat]? = some b := by
    obtain ⟨hlt, hv⟩ := List.getElem?_eq_some_iff.1 hb
    have hs : i.toNat < (⟨a.toArray⟩ : ByteArray).size := by rw [bytes_size]; exact hlt
    rw [getElem?_pos (⟨a.toArray⟩ : ByteArray) i.toNat hs, ByteArray.getElem_eq_getElem_data]
    simpa using hv
  simp [hx, hy, S, Instr.index, asIntOf, run_underlying ht, h0, e]
end ops
end Go.Q
namespace Go.Q
theorem nodup_len : ∀ (a b : List Int), a.Nodup → (∀ x ∈ a, x ∈ b) → a.length ≤ b.length
  | [], _, _, _ => Nat.zero_le _
  | x :: a, b, h, hs => by
    have h2 := List.nodup_cons.1 h
    have hx := hs x (List.mem_cons_self ..)
    have := nodup_len a (b.erase x) h2.2 fun y hy => (List.mem_erase_of_ne (fun e => h2.1 (by rw [← e]; exact hy))).2 (hs y (List.mem_cons_of_mem _ hy))
    rw [List.length_erase_of_mem hx] at this
    have : 0 < b.length := List.length_pos_of_mem hx
    rw [List.length_cons]; omega
end Go.Q
namespace Go.Q

/-- From a place on these cells stand. -/
def CellsAt (L : List Hp) (b off : Nat) (cs : List Value) : Prop := ∃ h ∈ L, ∃ c T f, h b = some (.cells c T f) ∧ ∀ j v, cs[j]? = some v → c[off + j]? = some v

theorem CellsAt.sub {L : List Hp} {b off : Nat} {cs ds : List Value} {k : Nat} (H : CellsAt L b off cs) (hd : ∀ j v, ds[j]? = some v → cs[k + j]? = some v) : CellsAt L b (off + k) ds := by
  obtain ⟨h, hh, c, T, f, hb, hc⟩ := H
  exact ⟨h, hh, c, T, f, hb, fun j v hv => by rw [Nat.add_assoc]; exact hc _ _ (hd j v hv)⟩
theorem CellsAt.mono {L M : List Hp} {b off : Nat} {cs : List Value} (H : CellsAt L b off cs) (hs : L ⊆ M) : CellsAt M b off cs := by
  obtain ⟨h, hh, r⟩ := H; exact ⟨h, hs hh, r⟩
theorem CellsAt.one {b off : Nat} {c : Array Value} {T : TypeId} {f : Nat × Nat} {cs : List Value} (h : (c.toList.drop off).take cs.length = cs) : CellsAt [Hp.one b (.cells c T f)] b off cs :=
  ⟨_, List.mem_singleton.2 rfl, c, T, f, Hp.one_at _ _, fun j v hv => by
    have hj : j < cs.length := (List.getElem?_eq_some_iff.1 hv).1
    rw [← h, List.getElem?_take, if_pos hj, List.getElem?_drop] at hv
    simpa using hv⟩
theorem Has.cell {E w : World} {ss : List (List Hp)} (H : Has E w ss) {L : List Hp} (hL : L ⊆ ss.flatten) {b off j : Nat} {cs : List Value} {v : Value} (hc : CellsAt L b off cs) (hj : cs[j]? = some v) :
    w.cell? ⟨b, off + j, none⟩ = some v := by
  obtain ⟨h, hh, c, T, f, hb, hcc⟩ := hc
  rw [cell_of_row w b (off + j) c T f (H.at (hL hh) hb)]
  exact hcc j v hj

theorem add_lit (b off j : Nat) : (⟨b, off, none⟩ : Addr).add j = ⟨b, off + j, none⟩ := by unfold Addr.add; split <;> simp_all

/-- A type's zero value, cells and bytes. -/
def TI (P : Program) (t : TypeId) (z : Value) (sz by_ : Nat) : Prop := ∃ i, P.info? t = some i ∧ i.zero = some z ∧ i.size = sz ∧ i.bytes = by_
theorem TI.mk {P : Program} {t : TypeId} {z : Value} {sz by_ : Nat} (h : (P.info? t).map (fun i => (i.zero, i.size, i.bytes)) = some (some z, sz, by_)) : TI P t z sz by_ := by
  unfold TI
  cases hi : P.info? t with
  | none => simp [hi] at h
  | some i => simp [hi] at h; exact ⟨i, rfl, h⟩
theorem TI.size {P : Program} {t : TypeId} {z : Value} {sz by_ : Nat} (h : TI P t z sz by_) (w : World) : (sizeOf t).run P w = .ok sz w := by
  obtain ⟨i, hi, _, rfl, _⟩ := h
  simp [sizeOf, typeInfo, hi]

def aggB : TypeDesc → Bool
  | .struct _ | .array _ _ => true
  | _ => false
theorem run_isAgg {P : Program} {t : TypeId} {d : TypeDesc} (h : P.underlying t = some d) (w : World) : (isAgg t).run P w = .ok (aggB d) w := by
  unfold isAgg
  rw [Sem.run_bind, run_underlying h]
  cases d <;> rfl

section ops
variable {P : Program} {ρ : Operand → Value} {E w : World} {ss : List (List Hp)} {K : Value → World → Prop} {dst : Option Tmp} {T : TypeId} {pos : String} {after : Array Edge} {g : Option (Nat × Bool)}

theorem o_load1 {t : TypeId} {x : Operand} {d : TypeDesc} {L : List Hp} {b off : Nat} {v : Value} (ht : P.underlying t = some d) (hd : aggB d = false)
    (hx : ρ x = .pointer (some ⟨b, off, none⟩)) (H : Has E w ss) (hL : L ⊆ ss.flatten) (hc : CellsAt L b off [v]) (hK : K v w) :
    OK P ⟨dst, .load t x, T, pos, after, g⟩ ρ w K := by
  refine OK.val (run_v ?_) hK
  have e := H.cell (j := 0) (v := v) hL hc rfl
  simp only [hx, Instr.loadAt, Instr.sureAddr, Sem.run_bind, Sem.run_pure, Result.andThen_ok, loadVar, run_isAgg ht, hd]
  simp only [Bool.false_eq_true, if_false, run_load]
  rw [show (⟨b, off, none⟩ : Addr) = ⟨b, off + 0, none⟩ from rfl, e]

theorem o_loadN {t : TypeId} {x : Operand} {d : TypeDesc} {L : List Hp} {b off : Nat} {cs : List Value} {z : Value} {by_ : Nat} (ht : P.underlying t = some d) (hd : aggB d = true)
    (hi : TI P t z cs.length by_) (hx : ρ x = .pointer (some ⟨b, off, none⟩)) (H : Has E w ss) (hL : L ⊆ ss.flatten) (hc : CellsAt L b off cs) (hK : K (.agg cs.toArray) w) :
    OK P ⟨dst, .load t x, T, pos, after, g⟩ ρ w K := by
  refine OK.val (run_v ?_) hK
  simp only [hx, Instr.loadAt, Instr.sureAddr, Sem.run_bind, Sem.run_pure, Result.andThen_ok, loadVar, run_isAgg ht, hd, if_true, hi.size]
  rw [run_loadCells_list (P := P) (w := w) ⟨b, off, none⟩ cs (fun j v hv => by rw [add_lit]; exact H.cell hL hc hv)]
  rfl

/-- the address of a field -/
theorem o_fieldAddr {s : TypeId} {x : Operand} {f b off k : Nat} (hr : ∀ w, (Instr.fieldAt s (.pointer (some ⟨b, off, none⟩)) f).run P w = .ok (.pointer (some ⟨b, k, none⟩)) w)
    (hx : ρ x = .pointer (some ⟨b, off, none⟩)) (hK : K (.pointer (some ⟨b, k, none⟩)) w) : OK P ⟨dst, .fieldAddr s x f, T, pos, after, g⟩ ρ w K :=
  OK.val (run_v (by rw [hx]; exact hr w)) hK

/-- any quiet operation that is reckoned by sight -/
theorem o_sight {op : Op} {v : Value} (hr : ∀ w, (execOp ρ ⟨dst, op, T, pos, after, g⟩).run P w = .ok (.value v) w) (hK : K v w) : OK P ⟨dst, op, T, pos, after, g⟩ ρ w K :=
  OK.val (hr w) hK

/-- a new block of a value -/
theorem o_box {e : TypeId} {x : Operand} {v : Value} {cs : Array Value} (hx : ρ x = v) (hcs : v.cells = cs) (H : Has E w ss)
    (hK : ∀ b w', Has E w' ([Hp.one b (.cells cs e (0, 0))] :: ss) → K (.pointer (some ⟨b, 0, none⟩)) w') : OK P ⟨dst, .box e x, T, pos, after, g⟩ ρ w K := by
  subst hcs hx
  exact OK.val (w' := { w with heap := w.heap.push (.cells (ρ x).cells e) }) (run_v (by simp [Instr.box, newVar, newRow])) (hK _ _ (H.alloc _))
theorem o_alloc {e : TypeId} {z : Value} {sz by_ : Nat} {cs : Array Value} (hi : TI P e z sz by_) (hcs : z.cells = cs) (H : Has E w ss)
    (hK : ∀ b w', Has E w' ([Hp.one b (.cells cs e (0, 0))] :: ss) → K (.pointer (some ⟨b, 0, none⟩)) w') : OK P ⟨dst, .alloc e, T, pos, after, g⟩ ρ w K := by
  subst hcs
  obtain ⟨i, hi, hz, _⟩ := hi
  exact OK.val (w' := { w with heap := w.heap.push (.cells z.cells e) }) (run_v (by simp [Instr.alloc, zeroValue, typeInfo, hi, hz, newVar, newRow])) (hK _ _ (H.alloc _))
theorem o_makeMap {t : TypeId} (H : Has E w ss) (hK : ∀ b w', Has E w' ([Hp.one b (.map #[] 0)] :: ss) → K (.map (some b)) w') : OK P ⟨dst, .makeMap t none, T, pos, after, g⟩ ρ w K :=
  OK.val (w' := { w with heap := w.heap.push (.map #[] 0) }) (run_v (by simp [Instr.makeMap])) (hK _ _ (H.alloc _))
theorem o_buildSlice {t e : TypeId} {len : Nat} {parts : Array (Nat × Operand)} {ps : Array (Nat × Value)} {cells : Array Value} {z : Value} {sz by_ : Nat}
    (ht : P.underlying t = some (.slice e)) (hi : TI P e z sz by_) (hsmall : ¬ len * sz > 2 ^ 24) (hp : parts.map (fun (i, x) => (i, ρ x)) = ps)
    (hf : Instr.fill (fun i => some (i * sz, sz)) ((Array.range (len * sz)).map (z.cells[· % z.cells.size]!)) ps.toList = some cells) (H : Has E w ss)
    (hK : ∀ b w', Has E w' ([Hp.one b (.cells cells e (0, 0))] :: ss) → K (.slice (some ⟨b, 0, none⟩) len len) w') : OK P ⟨dst, .buildSlice t len parts, T, pos, after, g⟩ ρ w K := by
  obtain ⟨i, hi, hz, hsz, _⟩ := hi
  subst hsz
  refine OK.val (w' := { w with heap := w.heap.push (.cells cells e) }) (run_v ?_) (hK _ _ (H.alloc _))
  rw [show (parts.map fun (i, x) => (i, ρ x)) = ps from hp]
  by_cases h0 : len * i.size = 0
  · rw [h0] at hf
    simp only [Instr.buildSlice, Sem.run_bind, run_underlying ht, sizeOf, typeInfo, run_program, hi, Result.andThen_ok, Sem.run_pure, h0]
    simp [newRow, Array.range_zero'] at *
    simp [hf]
  · exact run_buildSlice w t e len ps cells i z ht hi hz hsmall h0 hf

/-- a call of a function of the program, or of a function value -/
theorem o_call {c : Operand} {f : FuncId} {first captured : Array Value} {args : Array Operand} {ts : Array TypeId} {vs : Array Value} {fn : Func} {R : Ending → World → Prop} (hf : P.funcs[f]? = some fn)
    (hb : fn.body.isNone = false) (hn : (fn.name == "runtime.NumGoroutine") = false) (hv : ρ c = .func (.func f) first captured) (hargs : first ++ args.map ρ ++ captured = vs) (hc : Calls P f vs w R)
    (hK : ∀ e w', R e w' → ∃ v, e = .returned v ∧ K v w') : OK P ⟨dst, .call ⟨.value c, args, ts⟩, T, pos, after, g⟩ ρ w K := by
  have hr : (execOp ρ ⟨dst, .call ⟨.value c, args, ts⟩, T, pos, after, g⟩).run P w = .ok (.enter f vs) w := by
    have hn' : fn.name ≠ "runtime.NumGoroutine" := by simpa using hn
    have hb' : fn.body ≠ none := by intro e; simp [e] at hb
    simp [execOp, resolve, hv, Deferred.ofValue, invoke, callFunc, hf, hn', hb', ← hargs]
  unfold OK
  rw [hr]
  exact hc.mono hK

/-- A row of n elements of sz cells each. -/
def Sl (L : List Hp) (sz : Nat) (v : Value) (n : Nat) (cs : List Value) : Prop :=
  ∃ p cap, v = .slice p n cap ∧ n ≤ cap ∧ cap ≤ 9223372036854775807 ∧ cs.length = n * sz ∧ (0 < n → ∃ b off, p = some ⟨b, off, none⟩ ∧ CellsAt L b off cs)

theorem Sl.mono {L M : List Hp} {sz : Nat} {v : Value} {n : Nat} {cs : List Value} (H : Sl L sz v n cs) (hs : L ⊆ M) : Sl M sz v n cs := by
  obtain ⟨p, cap, e, a, b, c, d⟩ := H
  exact ⟨p, cap, e, a, b, c, fun h => let ⟨b, off, e, hc⟩ := d h; ⟨b, off, e, hc.mono hs⟩⟩
theorem Sl.form {L : List Hp} {sz : Nat} {v : Value} {n : Nat} {cs : List Value} (H : Sl L sz v n cs) : ∃ p cap, v = .slice p n cap := let ⟨p, cap, e, _⟩ := H; ⟨p, cap, e⟩

theorem o_lenS {x : Operand} {t e : TypeId} {L : List Hp} {sz n : Nat} {v : Value} {cs : List Value} (ht : P.underlying t = some (.slice e)) (hx : ρ x = v) (hs : Sl L sz v n cs) (hK : K (.int .i64 n) w) :
    OK P ⟨dst, .call ⟨.builtin .len, #[x], #[t]⟩, T, pos, after, g⟩ ρ w K := by
  obtain ⟨p, cap, rfl, _⟩ := hs
  exact o_len ht hx hK

theorem o_indexAddr {x y : Operand} {t e : TypeId} {L : List Hp} {sz n by_ : Nat} {v z : Value} {cs : List Value} {k : IntKind} {i : Int} (ht : P.underlying t = some (.slice e)) (hi : TI P e z sz by_)
    (hx : ρ x = v) (hs : Sl L sz v n cs) (hy : ρ y = .int k i) (h0 : 0 ≤ i) (h1 : i < n) (hK : ∀ b off, CellsAt L b off ((cs.drop (i.toNat * sz)).take sz) → K (.pointer (some ⟨b, off, none⟩)) w) :
    OK P ⟨dst, .indexAddr t x y, T, pos, after, g⟩ ρ w K := by
  obtain ⟨p, cap, rfl, hnc, hcm, hl, hp⟩ := hs
  obtain ⟨b, off, rfl, hc⟩ := hp (by omega)
  refine OK.val (run_v (v := .pointer (some ⟨b, off + i.toNat * sz, none⟩)) ?_) (hK _ _ (hc.sub ?_))
  · rw [hx, hy]
    simp [Instr.indexAt, asIntOf, run_underlying ht, h0, h1, hi.size, add_lit]
  · intro j v hv
    rw [List.getElem?_take] at hv
    split at hv
    · rw [List.getElem?_drop] at hv; exact hv
    · cases hv

theorem drop_take_map {α : Type} (f : α → Value) (l : List α) (i : Nat) (hi : i < l.length) : ((l.map f).drop (i * 1)).take 1 = [f l[i]] := by
  rw [Nat.mul_one, ← List.map_drop, List.drop_eq_getElem_cons hi]; rfl

/-- a store of one cell into the front block -/
theorem o_store1 {x y : Operand} {t : TypeId} {b off : Nat} {c c' : Array Value} {U : TypeId} {v z : Value} {by_ : Nat} (hi : TI P t z 1 by_) (hx : ρ x = .pointer (some ⟨b, off, none⟩)) (hy : ρ y = v)
    (hv : v.oneCell' = true) (hlt : off < c.size) (hc : c.setIfInBounds off v = c') (H : Has E w ([Hp.one b (.cells c U (0, 0))] :: ss))
    (hK : ∀ w', Has E w' ([Hp.one b (.cells c' U (0, 0))] :: ss) → K undef w') : OK P ⟨dst, .store t x y, T, pos, after, g⟩ ρ w K := by
  have hwb : w.heap[b]? = some (.cells c U (0, 0)) := H.at (h := Hp.one b (.cells c U (0, 0))) (by simp) (Hp.one_at _ _)
  have hcell : w.cell? ⟨b, off, none⟩ = some c[off] := by rw [cell_of_row w b off c U (0, 0) hwb]; simp [hlt]
  have hfz : w.frozen? ⟨b, off, none⟩ = false := by simp [World.frozen?, hwb]
  have hcl : v.cells = #[v] := by cases v <;> first | rfl | (simp [Value.oneCell'] at hv)
  refine OK.skip (w' := w.setCell ⟨b, off, none⟩ v) (run_u ?_) (hK _ ?_)
  · rw [hx, hy]
    simp only [Instr.storeAt, Instr.sureAddr, Sem.run_bind, Sem.run_pure, Result.andThen_ok, storeVar, hi.size, hcl]
    simp [storeCells, add_lit, run_store P w ⟨b, off, none⟩ v .plain hv, hcell, hfz]
  · refine Has0.write (an := [Hp.one b (.cells c U (0, 0))]) (an' := [Hp.one b (.cells c' U (0, 0))]) (hs := ss.flatten) H rfl rfl rfl (by simp) ?_ ?_ ?_
    · intro k hk
      have hk := hk _ (List.mem_singleton.2 rfl)
      refine .inl fun h hh => ?_
      rw [List.mem_singleton.1 hh]
      unfold Hp.one at hk ⊢
      split at hk
      · cases hk
      · rw [if_neg (by assumption)]
    · intro h hh k o hk
      rw [List.mem_singleton.1 hh] at hk
      obtain ⟨rfl, rfl⟩ := Hp.one_some hk
      simp only [World.setCell, Array.getElem?_modify]
      simp [hwb, hc]
    · intro k _ hk
      have hk := hk _ (List.mem_singleton.2 rfl)
      have : k ≠ b := by rintro rfl; rw [Hp.one_at] at hk; cases hk
      simp only [World.setCell, Array.getElem?_modify]
      rw [if_neg (by omega)]
end ops
end Go.Q
namespace Go.Q

/-- A row that lies alone in its block, from the block's beginning on. -/
def Own (e : TypeId) (sz : Nat) (v : Value) (n : Nat) (cs : List Value) (hs : List Hp) : Prop :=
  cs.length = n * sz ∧ ((v = .slice none 0 0 ∧ n = 0 ∧ hs = []) ∨
    ∃ b cap cur, v = .slice (some ⟨b, 0, none⟩) n cap ∧ hs = [Hp.one b (.cells cur e (0, 0))] ∧ n ≤ cap ∧ cap ≤ maxLen ∧ cur.size = cap * sz ∧ cur.toList.take (n * sz) = cs)

theorem Own.nil (e : TypeId) (sz : Nat) : Own e sz (.slice none 0 0) 0 [] [] := ⟨by simp, .inl ⟨rfl, rfl, rfl⟩⟩
theorem Own.lit {e : TypeId} {sz n b : Nat} {cur : Array Value} (h : cur.size = n * sz) (hm : n ≤ maxLen) :
    Own e sz (.slice (some ⟨b, 0, none⟩) n n) n cur.toList [Hp.one b (.cells cur e (0, 0))] :=
  ⟨by simpa using h, .inr ⟨b, n, cur, rfl, rfl, Nat.le_refl _, hm, h, by rw [List.take_of_length_le (by simp [h])]⟩⟩
theorem Own.sl {e : TypeId} {sz n : Nat} {v : Value} {cs : List Value} {hs : List Hp} (H : Own e sz v n cs hs) : Sl hs sz v n cs := by
  obtain ⟨hl, ⟨rfl, rfl, rfl⟩ | ⟨b, cap, cur, rfl, rfl, hnc, hcm, hcs, htake⟩⟩ := H
  · exact ⟨none, 0, rfl, Nat.le_refl _, by omega, hl, fun h => by omega⟩
  · refine ⟨_, cap, rfl, hnc, by simpa [maxLen] using hcm, hl, fun _ => ⟨b, 0, rfl, ?_⟩⟩
    refine CellsAt.one ?_
    rw [List.drop_zero, hl]; exact htake
theorem Own.row {e : TypeId} {sz n : Nat} {v : Value} {cs : List Value} {hs : List Hp} (H : Own e sz v n cs hs) {E w : World} {ss : List (List Hp)} (hH : Has E w (hs :: ss)) : w.ownsRow 0 e sz v n cs := by
  obtain ⟨hl, ⟨rfl, rfl, rfl⟩ | ⟨b, cap, cur, rfl, rfl, hnc, hcm, hcs, htake⟩⟩ := H
  · exact ⟨hl, .inl ⟨rfl, rfl⟩⟩
  · exact ⟨hl, .inr ⟨b, cap, cur, rfl, Nat.zero_le _, hH.at (by simp) (Hp.one_at _ _), hnc, hcm, hcs, htake⟩⟩

/-- A world that has grown by a row's own block. -/
theorem Own.turn {e : TypeId} {sz n n' : Nat} {v v' : Value} {cs cs' : List Value} {hs : List Hp} (H : Own e sz v n cs hs) {E w w' : World} {ss : List (List Hp)} (hH : Has E w (hs :: ss))
    (ho : w'.ownsRow 0 e sz v' n' cs') (hg : w.grownBy w' v.ownBlock) (hl : v'.ownBlock = v.ownBlock ∨ v'.ownBlock = some w.heap.size) :
    ∃ hs', Own e sz v' n' cs' hs' ∧ Has E w' (hs' :: ss) := by
  have hdom : ∀ b, (∀ h ∈ hs, h b = none) → v.ownBlock ≠ some b := by
    intro b hb hv
    obtain ⟨_, ⟨rfl, _⟩ | ⟨b', cap, cur, rfl, rfl, _⟩⟩ := H
    · simp [Value.ownBlock] at hv
    · simp [Value.ownBlock] at hv
      subst hv
      have := hb _ (List.mem_singleton.2 rfl)
      rw [Hp.one_at] at this; cases this
  have keep : ∀ b, b < w.heap.size → (∀ h ∈ hs, h b = none) → w'.heap[b]? = w.heap[b]? := fun b hb hn => hg.block b hb (fun e => hdom b hn e.symm)
  obtain ⟨hl', ⟨rfl, rfl⟩ | ⟨b, cap, cur, rfl, _, hb, hnc, hcm, hcs, htake⟩⟩ := ho
  · refine ⟨[], ⟨hl', .inl ⟨rfl, rfl, rfl⟩⟩, ?_⟩
    refine Has0.write (an := hs) (an' := []) (hs := ss.flatten) hH hg.os hg.tape hg.output (by simp) (fun b _ => .inl (by simp)) (by simp) keep
  · refine ⟨[Hp.one b (.cells cur e (0, 0))], ⟨hl', .inr ⟨b, cap, cur, rfl, rfl, hnc, hcm, hcs, htake⟩⟩, ?_⟩
    refine Has0.write (an := hs) (an' := [Hp.one b (.cells cur e (0, 0))]) (hs := ss.flatten) hH hg.os hg.tape hg.output (by simp) (fun k hk => ?_) ?_ keep
    · by_cases hkb : k = b
      · subst hkb
        rcases hl with hl | hl
        · exact absurd hl.symm (hdom k hk)
        · simp [Value.ownBlock] at hl; exact .inr (by omega)
      · refine .inl fun h hh => ?_
        rw [List.mem_singleton.1 hh]; unfold Hp.one; rw [if_neg hkb]
    · intro h hh k o hk
      rw [List.mem_singleton.1 hh] at hk
      obtain ⟨rfl, rfl⟩ := Hp.one_some hk
      exact hb

section ops
variable {P : Program} {ρ : Operand → Value} {E w : World} {ss : List (List Hp)} {K : Value → World → Prop} {dst : Option Tmp} {T : TypeId} {pos : String} {after : Array Edge} {g : Option (Nat × Bool)}

theorem o_append {x y : Operand} {t e : TypeId} {z v u : Value} {sz by_ n m : Nat} {cs ds : List Value} {hs L : List Hp} (ht : P.underlying t = some (.slice e)) (hi : TI P e z sz by_)
    (hz : z.cells.size = sz) (hsz : 0 < sz) (hx : ρ x = v) (ho : Own e sz v n cs hs) (hy : ρ y = u) (hu : Sl L sz u m ds) (H : Has E w (hs :: ss)) (hL : L ⊆ ss.flatten)
    (h1 : ∀ u ∈ ds, u.oneCell' = true) (hb : (n + m) * by_ ≤ 140737488355328) (h63 : n + m ≤ 9223372036854775807)
    (hK : ∀ v' hs' w', Own e sz v' (n + m) (cs ++ ds) hs' → Has E w' (hs' :: ss) → K v' w') :
    OK P ⟨dst, .call ⟨.builtin .append, #[x, y], #[t, t]⟩, T, pos, after, g⟩ ρ w K := by
  obtain ⟨i, hi, hiz, hisz, hiby⟩ := hi
  obtain ⟨p, cap, rfl, hnc, hcm, hl, hp⟩ := hu
  have hrow := ho.row H
  by_cases hm : m = 0
  · subst hm
    have hds : ds = [] := by simpa using hl
    subst hds
    refine o_call_builtin (v := v) (w' := w) ?_ (hK _ hs w (by simpa using ho) H)
    obtain ⟨hlc, ⟨rfl, rfl, rfl⟩ | ⟨b, cap', cur, rfl, rfl, hnc', _⟩⟩ := ho
    · cases p <;> simp [hx, hy, builtin, Builtin.append_, run_underlying ht, sizeOf, typeInfo, hi, Builtin.lenOf, Builtin.firstCells, loadCells, loadCellsFrom]
    · cases p <;> simp [hx, hy, builtin, Builtin.append_, run_underlying ht, sizeOf, typeInfo, hi, Builtin.lenOf, Builtin.firstCells, loadCells, loadCellsFrom, hnc', storeCells]
  · obtain ⟨b, off, rfl, hc⟩ := hp (by omega)
    obtain ⟨v', w', hr, ho', hg, _, hloc⟩ := run_append_own_at (P := P) w 0 t T e i z sz by_ ht hi hiz hisz hiby hz hsz v n cs hrow ⟨b, off, none⟩ m cap ds hl
      (fun j u hj => by rw [add_lit]; exact H.cell (fun _ hx => List.mem_append_right _ (hL hx)) hc hj) h1 (by simpa [maxLen] using h63) hb (Nat.zero_le _)
    obtain ⟨hs', hown, hH⟩ := ho.turn H ho' hg hloc
    refine o_call_builtin (v := v') (w' := w') ?_ (hK v' hs' w' hown hH)
    simp only [hx, hy, builtin, List.map_toArray, List.map_cons, List.map_nil, Sem.run_bind, hr, Result.andThen_ok, Sem.run_pure]

/-- make -/
theorem o_make {x y : Operand} {t e : TypeId} {z : Value} {sz by_ : Nat} {kl kc : IntKind} {l c : Int} (ht : P.underlying t = some (.slice e)) (hi : TI P e z sz by_)
    (hx : ρ x = .int kl l) (hy : ρ y = .int kc c) (h0 : 0 ≤ l) (hlc : l ≤ c) (hb : (by_ : Int) * c ≤ 281474976710656) (h63 : c ≤ 9223372036854775807) (H : Has E w ss)
    (hK : ∀ v' hs' w', Own e sz v' l.toNat ((madeCells z.cells (c.toNat * sz)).toList.take (l.toNat * sz)) hs' → Has E w' (hs' :: ss) → K v' w') :
    OK P ⟨dst, .makeSlice t x y, T, pos, after, g⟩ ρ w K := by
  obtain ⟨i, hi, hiz, hisz, hiby⟩ := hi
  subst hisz hiby
  have hr := run_make (P := P) w t e i z ht hi hiz kl kc l c h0 hlc hb h63
  refine OK.val (run_v (by rw [hx, hy]; exact hr)) (hK _ [Hp.one w.heap.size (.cells (madeCells z.cells (c.toNat * i.size)) e (0, 0))] _ ⟨?_, .inr ⟨w.heap.size, c.toNat, _, rfl, rfl, by omega, by simp [maxLen]; omega, size_madeCells _ _, rfl⟩⟩ (H.alloc _))
  rw [List.length_take, Array.length_toList, size_madeCells, Nat.min_eq_left]
  exact Nat.mul_le_mul_right _ (by omega)
theorem made_nil (z : Array Value) (n k : Nat) : (madeCells z n).toList.take (0 * k) = [] := by simp
theorem made_rep (v : Value) (n : Nat) : (madeCells #[v] (n * 1)).toList.take (n * 1) = List.replicate n v := by
  rw [List.take_of_length_le (by simp [size_madeCells])]
  apply List.ext_getElem
  · simp [size_madeCells]
  · intro i h1 h2
    simp [madeCells, Nat.mod_one]

/-- s[i:j] of a text -/
theorem extract_S (a : List UInt8) (i j : Nat) : Value.string ((⟨a.toArray⟩ : ByteArray).extract i j) = S ((a.take j).drop i) := by
  unfold S
  congr 1
  apply ByteArray.ext
  rw [ByteArray.data_extract]
  simp [List.drop_take]
theorem run_ssl {t : TypeId} {a : List UInt8} {k k' : IntKind} {i j : Int} (ht : P.underlying t = some .string) (h0 : 0 ≤ i) (h1 : i ≤ j) (h2 : j ≤ a.length) :
    (Instr.sliceAt t (S a) (some (.int k i)) (some (.int k' j)) none).run P w = .ok (S ((a.take j.toNat).drop i.toNat)) w := by
  have hs := bytes_size a
  have e : ((j.toNat : Nat) : Int) = j := Int.toNat_of_nonneg (by omega)
  rw [run_sliceAt_string _ _ _ _ _ _ ht, ← extract_S]
  unfold S
  simp [Instr.slice, run_underlying ht, Instr.sliceBounds, run_sliceBound, hs, h0, h1, h2, e, (show 0 ≤ j by omega)]
theorem run_ssl_l {t : TypeId} {a : List UInt8} {k : IntKind} {i : Int} (ht : P.underlying t = some .string) (h0 : 0 ≤ i) (h1 : i ≤ a.length) :
    (Instr.sliceAt t (S a) (some (.int k i)) none none).run P w = .ok (S (a.drop i.toNat)) w := by
  have hs := bytes_size a
  rw [run_sliceAt_string _ _ _ _ _ _ ht]
  have := extract_S a i.toNat a.length
  rw [List.take_of_length_le (Nat.le_refl _)] at this
  rw [← this]
  unfold S
  simp [Instr.slice, run_underlying ht, Instr.sliceBounds, run_sliceBound, hs, h0, h1]
theorem run_ssl_h {t : TypeId} {a : List UInt8} {k : IntKind} {j : Int} (ht : P.underlying t = some .string) (h0 : 0 ≤ j) (h1 : j ≤ a.length) :
    (Instr.sliceAt t (S a) none (some (.int k j)) none).run P w = .ok (S (a.take j.toNat)) w := by
  have hs := bytes_size a
  rw [run_sliceAt_string _ _ _ _ _ _ ht]
  have := extract_S a 0 j.toNat
  rw [List.drop_zero] at this
  rw [← this]
  unfold S
  simp [Instr.slice, run_underlying ht, Instr.sliceBounds, run_sliceBound, hs, h0, h1]
theorem o_ssl {x y z : Operand} {t : TypeId} {a : List UInt8} {k k' : IntKind} {i j : Int} (ht : P.underlying t = some .string) (hx : ρ x = S a) (hy : ρ y = .int k i) (hz : ρ z = .int k' j)
    (h0 : 0 ≤ i) (h1 : i ≤ j) (h2 : j ≤ a.length) (hK : K (S ((a.take j.toNat).drop i.toNat)) w) : OK P ⟨dst, .slice t x (some y) (some z) none, T, pos, after, g⟩ ρ w K :=
  OK.val (run_v (by simp only [hx, hy, hz, Option.map_some, Option.map_none]; exact run_ssl ht h0 h1 h2)) hK
theorem o_ssl_l {x y : Operand} {t : TypeId} {a : List UInt8} {k : IntKind} {i : Int} (ht : P.underlying t = some .string) (hx : ρ x = S a) (hy : ρ y = .int k i)
    (h0 : 0 ≤ i) (h1 : i ≤ a.length) (hK : K (S (a.drop i.toNat)) w) : OK P ⟨dst, .slice t x (some y) none none, T, pos, after, g⟩ ρ w K :=
  OK.val (run_v (by simp only [hx, hy, Option.map_some, Option.map_none]; exact run_ssl_l ht h0 h1)) hK
theorem o_ssl_h {x z : Operand} {t : TypeId} {a : List UInt8} {k : IntKind} {j : Int} (ht : P.underlying t = some .string) (hx : ρ x = S a) (hz : ρ z = .int k j)
    (h0 : 0 ≤ j) (h1 : j ≤ a.length) (hK : K (S (a.take j.toNat)) w) : OK P ⟨dst, .slice t x none (some z) none, T, pos, after, g⟩ ρ w K :=
  OK.val (run_v (by simp only [hx, hz, Option.map_some, Option.map_none]; exact run_ssl_h ht h0 h1)) hK

/-- parts of rows that are read -/
theorem CellsAt.drop {L : List Hp} {b off k : Nat} {cs : List Value} (H : CellsAt L b off cs) : CellsAt L b (off + k) (cs.drop k) := H.sub fun j v hv => by rwa [List.getElem?_drop] at hv
theorem CellsAt.take {L : List Hp} {b off k : Nat} {cs : List Value} (H : CellsAt L b off cs) : CellsAt L b off (cs.take k) :=
  H.sub (k := 0) fun j v hv => by
    rw [List.getElem?_take] at hv
    split at hv
    · simpa using hv
    · cases hv
theorem Sl.part {L : List Hp} {sz : Nat} {p : Option Addr} {n cap : Nat} {cs : List Value} (H : Sl L sz (.slice p n cap) n cs) (i j : Nat) (hij : i ≤ j) (hj : j ≤ n) :
    Sl L sz (sliced p i j cap sz) (j - i) (((cs.take (j * sz)).drop (i * sz))) := by
  obtain ⟨p', cap', e, hnc, hcm, hl, hp⟩ := H
  cases e
  refine ⟨_, _, rfl, by omega, by omega, ?_, fun h => ?_⟩
  · rw [List.length_drop, List.length_take, hl, Nat.min_eq_left (Nat.mul_le_mul_right _ hj), Nat.sub_mul]
  · obtain ⟨b, off, rfl, hc⟩ := hp (by omega)
    rw [if_neg (by omega)]
    refine ⟨b, off + i * sz, ?_, hc.take.drop⟩
    simp [add_lit]
theorem o_sl {x y z : Operand} {t e : TypeId} {zz : Value} {v : Value} {sz by_ n : Nat} {cs : List Value} {L : List Hp} {k k' : IntKind} {i j : Int} (ht : P.underlying t = some (.slice e)) (hi : TI P e zz sz by_)
    (hx : ρ x = v) (hs : Sl L sz v n cs) (hy : ρ y = .int k i) (hz : ρ z = .int k' j) (h0 : 0 ≤ i) (h1 : i ≤ j) (h2 : j ≤ n)
    (hK : ∀ v', Sl L sz v' (j.toNat - i.toNat) ((cs.take (j.toNat * sz)).drop (i.toNat * sz)) → K v' w) : OK P ⟨dst, .slice t x (some y) (some z) none, T, pos, after, g⟩ ρ w K := by
  obtain ⟨p, cap, rfl⟩ := hs.form
  refine OK.val (run_v ?_) (hK _ (hs.part i.toNat j.toNat (by omega) (by omega)))
  obtain ⟨_, _, e, hnc, _⟩ := hs
  cases e
  have e1 : P.elem t = e := by simp [Program.elem, ht]
  simp only [hx, hy, hz, Option.map_some, Option.map_none]
  rw [run_sliceAt_slice _ _ _ _ _ _ (by rw [e1]; exact ht), run_slice_lh _ _ _ _ _ (by rw [e1]; exact ht) _ _ _ _ h0 h1 (by omega), e1, hi.size]
  rfl
end ops
end Go.Q
namespace Go.Q

section control
variable {P : Program} {Q : Exit → Act → World → Prop} {w : World} {N : Nat} {r : Nat → Value}

theorem c_cond {p : Prop} [Decidable p] {c : Operand} {x y : Code} (hc : ev N r c = .bool (decide p)) (ht : p → x.wp P Q (fr N r) w) (hf : ¬ p → y.wp P Q (fr N r) w) : (Code.cond c x y).wp P Q (fr N r) w :=
  wp_cond_split (t := decide p) (by rw [fr_eval]; exact hc) (fun h => ht (of_decide_eq_true h)) (fun h => hf (of_decide_eq_false h))
theorem c_condb {b : Bool} {c : Operand} {x y : Code} (hc : ev N r c = .bool b) (ht : b = true → x.wp P Q (fr N r) w) (hf : b = false → y.wp P Q (fr N r) w) : (Code.cond c x y).wp P Q (fr N r) w :=
  wp_cond_split (t := b) (by rw [fr_eval]; exact hc) ht hf
theorem c_true {c : Operand} {x y : Code} {b : Bool} (hc : ev N r c = .bool b) (hb : b = true) (h : x.wp P Q (fr N r) w) : (Code.cond c x y).wp P Q (fr N r) w :=
  wp_cond_true (by rw [fr_eval, hc, hb]) h
theorem c_false {c : Operand} {x y : Code} {b : Bool} (hc : ev N r c = .bool b) (hb : b = false) (h : y.wp P Q (fr N r) w) : (Code.cond c x y).wp P Q (fr N r) w :=
  wp_cond_false (by rw [fr_eval, hc, hb]) h
theorem c_region {id : Nat} {ops : List Oper} (h : wpList P ops.toArray Q ops (fr N r) w) : (Code.region id ops.toArray false).wp P Q (fr N r) w := wp_region_lit h

theorem x_in {id : Nat} {a : Act} (h : Q .normal a w) : Exit.inBlock id Q (.exit id) a w := by simp only [Exit.inBlock, if_true]; exact h
theorem x_out {id id' : Nat} {a : Act} (hne : (id' == id) = false) (h : Q (.exit id') a w) : Exit.inBlock id Q (.exit id') a w := by
  have : id' ≠ id := by simpa using hne
  simp only [Exit.inBlock, if_neg this]; exact h

/-- A loop: the invariant bears a number that every round lowers. -/
theorem c_loop {c : Code} (I : Nat → (Nat → Value) → World → Prop) (n₀ : Nat) (h₀ : I n₀ r w)
    (round : ∀ n r w, I n r w → c.wp P (Exit.then (fun a' w' => ∃ m r', a' = fr N r' ∧ m < n ∧ I m r' w') Q) (fr N r) w) : (Code.loop c).wp P Q (fr N r) w := by
  intro b k cs
  have key : ∀ n r w, I n r w →
      ∃ e a' w', Q e a' w' ∧ Arrives P (lone (b.at (fr N r) (.code c :: .inLoop c :: k)) cs w) b k cs e a' w' := by
    intro n
    induction n using Nat.strongRecOn with
    | _ n ih =>
      intro r w hI
      obtain ⟨e, a₁, w₁, hq, harr⟩ := round n r w hI b (.inLoop c :: k) cs
      cases e with
      | normal =>
        obtain ⟨m, r₁, rfl, hlt, hI₁⟩ := hq
        obtain ⟨e₂, a₂, w₂, hq₂, harr₂⟩ := ih m hlt r₁ w₁ hI₁
        exact ⟨e₂, a₂, w₂, hq₂, .of_steps (Steps.trans harr (.one step_inLoop)) harr₂⟩
      | exit id => exact ⟨_, a₁, w₁, hq, .pass (x := .inLoop c) rfl (fun _ _ => .inl (by simp)) harr⟩
      | goto l => exact ⟨_, a₁, w₁, hq, .pass (x := .inLoop c) rfl (fun _ _ => .inl (by simp)) harr⟩
      | ret => exact ⟨_, a₁, w₁, hq, .pass (x := .inLoop c) rfl (fun _ _ => .inl (by simp)) harr⟩
      | panic ch => exact ⟨_, a₁, w₁, hq, .pass (x := .inLoop c) rfl (fun _ _ => .inl (by simp)) harr⟩
      | outgrown => exact ⟨_, a₁, w₁, hq, .pass (x := .inLoop c) rfl (fun _ _ => .inl (by simp)) harr⟩
  obtain ⟨e, a', w', hq, harr⟩ := key n₀ r w h₀
  exact ⟨e, a', w', hq, .of_steps (.one step_loop) harr⟩

/-- the ends -/
theorem c_ret0 {fn : Func} {R : Ending → World → Prop} (hr : fn.results = #[]) (hR : R (.returned (.tuple #[])) w) : bodyPost P fn R .ret (fr N r) w :=
  bodyPost_ret (results_none hr _ _ _) rfl hR
theorem c_end0 {fn : Func} {R : Ending → World → Prop} (hr : fn.results = #[]) (hR : R (.returned (.tuple #[])) w) : bodyPost P fn R .normal (fr N r) w :=
  bodyPost_end (results_none hr _ _ _) rfl hR
theorem getD_fr (t : Nat) : (fr N r).tmps.getD t undef = ev N r (.tmp t) := by rw [← fr_eval]; rfl
theorem c_ret1 {fn : Func} {R : Ending → World → Prop} {t : Tmp} {v : Value} (hr : fn.results = #[.tmp t]) (hv : ev N r (.tmp t) = v) (hR : R (.returned v) w) : bodyPost P fn R .ret (fr N r) w :=
  bodyPost_ret (v := v) (by rw [results_tmp hr, getD_fr, hv]) rfl hR
theorem c_ret2 {fn : Func} {R : Ending → World → Prop} {t u : Tmp} {v x : Value} (hr : fn.results = #[.tmp t, .tmp u]) (hv : ev N r (.tmp t) = v) (hx : ev N r (.tmp u) = x)
    (hR : R (.returned (.tuple #[v, x])) w) : bodyPost P fn R .ret (fr N r) w :=
  bodyPost_ret (v := .tuple #[v, x]) (by rw [results_tmp2 hr, getD_fr, getD_fr, hv, hx]) rfl hR
theorem c_ret3 {fn : Func} {R : Ending → World → Prop} {t u s : Tmp} {v x y : Value} (hr : fn.results = #[.tmp t, .tmp u, .tmp s]) (hv : ev N r (.tmp t) = v) (hx : ev N r (.tmp u) = x) (hy : ev N r (.tmp s) = y)
    (hR : R (.returned (.tuple #[v, x, y])) w) : bodyPost P fn R .ret (fr N r) w := by
  refine bodyPost_ret (v := .tuple #[v, x, y]) ?_ rfl hR
  have e : ∀ t, (fr N r).tmps[t]?.getD undef = ev N r (.tmp t) := fun t => by rw [← getD_fr, Array.getD_eq_getD_getElem?]
  simp [results, hr, e, ← hv, ← hx, ← hy]
theorem c_enter {f : FuncId} {fn : Func} {c : Code} {args : List Value} {R : Ending → World → Prop} {N : Nat} (hf : P.funcs[f]? = some fn) (hb : fn.body = some c) (hn : fn.ntmps = N) (hN : args.length ≤ N)
    (h : c.wp P (bodyPost P fn R) (fr N (base args)) w) : Calls P f args.toArray w R := by
  refine calls_of_wp hf hb ?_
  have e : ({ tmps := args.toArray ++ Array.replicate (fn.ntmps - args.toArray.size) undef, defers := [] } : Act) = fr N (base args) := by
    have : args.toArray ++ Array.replicate (fn.ntmps - args.toArray.size) undef = (fr N (base args)).tmps := by
      apply Array.ext_getElem?
      intro t
      rw [fr_at, hn, Array.getElem?_append]
      unfold base
      by_cases h1 : t < args.length
      · rw [if_pos (by simpa using h1), if_pos (by omega)]; simp [h1]
      · rw [if_neg (by simpa using h1)]
        by_cases h2 : t < N
        · rw [if_pos h2]; simp [h1, Array.getElem?_replicate]; omega
        · rw [if_neg h2]; simp [Array.getElem?_replicate]; omega
    exact act_ext this rfl
  rw [e]; exact h
end control


/-- The whole is told as one list. -/
theorem Has.all {E w : World} {ss : List (List Hp)} (H : Has E w ss) : Has E w [ss.flatten] := by unfold Has at *; simpa using H
theorem Has.of_all {E w : World} {ss : List (List Hp)} (H : Has E w [ss.flatten]) : Has E w ss := by unfold Has at *; simpa using H
theorem Has.all1 {E w : World} {s : List Hp} {ss : List (List Hp)} (H : Has E w (s :: ss)) : Has E w [s, ss.flatten] := by unfold Has at *; simpa using H
theorem Has.of_all1 {E w : World} {s : List Hp} {ss : List (List Hp)} (H : Has E w [s, ss.flatten]) : Has E w (s :: ss) := by unfold Has at *; simpa using H
theorem Has.all2 {E w : World} {s t : List Hp} {ss : List (List Hp)} (H : Has E w (s :: t :: ss)) : Has E w [s, t, ss.flatten] := by unfold Has at *; simpa using H
theorem Has.of_all2 {E w : World} {s t : List Hp} {ss : List (List Hp)} (H : Has E w [s, t, ss.flatten]) : Has E w (s :: t :: ss) := by unfold Has at *; simpa using H

theorem w64 {x : Int} (h0 : -9223372036854775808 ≤ x) (h1 : x ≤ 9223372036854775807) : IntKind.wrap .i64 x = x := by rw [IntKind.wrap_i64]; omega
theorem w_u8 (b : UInt8) : IntKind.wrap .i64 (b.toNat : Int) = b.toNat := w64 (by omega) (by have := b.toNat_lt; omega)
def iV (x : Int) : Value := .int .i64 x
def bV (b : UInt8) : Value := .int .u8 b.toNat
abbrev Ints (L : List Hp) (v : Value) (l : List Int) : Prop := Sl L 1 v l.length (l.map iV)
theorem Sl.le {L : List Hp} {sz n : Nat} {v : Value} {cs : List Value} (H : Sl L sz v n cs) : n ≤ 9223372036854775807 := by
  obtain ⟨p, cap, e, a, b, c⟩ := H; omega
theorem get_some {α : Type} {l : List α} {k : Nat} (h : k < l.length) : ∃ x, l[k]? = some x := ⟨_, List.getElem?_eq_getElem h⟩
theorem take_succ_of {α : Type} {l : List α} {k : Nat} {x : α} (h : l[k]? = some x) : l.take (k + 1) = l.take k ++ [x] := by
  rw [List.take_add_one, h]; rfl

def Callable (P : Program) (f : FuncId) : Prop := ∃ fn, P.funcs[f]? = some fn ∧ fn.body.isNone = false ∧ (fn.name == "runtime.NumGoroutine") = false

section ops
variable {P : Program} {ρ : Operand → Value} {E w : World} {ss : List (List Hp)} {K : Value → World → Prop} {dst : Option Tmp} {T : TypeId} {pos : String} {after : Array Edge} {g : Option (Nat × Bool)}
theorem o_callf {c : Operand} {f : FuncId} {first captured : Array Value} {args : Array Operand} {ts : Array TypeId} {vs : Array Value} {R : Ending → World → Prop} (hf : Callable P f)
    (hv : ρ c = .func (.func f) first captured) (hargs : first ++ args.map ρ ++ captured = vs) (hc : Calls P f vs w R)
    (hK : ∀ e w', R e w' → ∃ v, e = .returned v ∧ K v w') : OK P ⟨dst, .call ⟨.value c, args, ts⟩, T, pos, after, g⟩ ρ w K := by
  obtain ⟨fn, h1, h2, h3⟩ := hf
  exact o_call h1 h2 h3 hv hargs hc hK
/-- an element's place in a row of one cell each -/
theorem o_index1 {α : Type} {f : α → Value} {l : List α} {a : α} {x y : Operand} {t e : TypeId} {L : List Hp} {by_ : Nat} {v z : Value} {k : IntKind} {i : Int} (ht : P.underlying t = some (.slice e)) (hi : TI P e z 1 by_)
    (hx : ρ x = v) (hs : Sl L 1 v l.length (l.map f)) (hy : ρ y = .int k i) (h0 : 0 ≤ i) (ha : l[i.toNat]? = some a) (hK : ∀ b off, CellsAt L b off [f a] → K (.pointer (some ⟨b, off, none⟩)) w) :
    OK P ⟨dst, .indexAddr t x y, T, pos, after, g⟩ ρ w K := by
  have hlt : i.toNat < l.length := (List.getElem?_eq_some_iff.1 ha).1
  refine o_indexAddr ht hi hx hs hy h0 (by omega) fun b off hc => hK b off ?_
  rw [drop_take_map f l _ hlt] at hc
  have := (List.getElem?_eq_some_iff.1 ha).2
  rwa [this] at hc
end ops
theorem t_norm {K : Act → World → Prop} {Q : Exit → Act → World → Prop} {a : Act} {w : World} (h : K a w) : Exit.then K Q .normal a w := h
theorem t_exit {K : Act → World → Prop} {Q : Exit → Act → World → Prop} {a : Act} {w : World} {id : Nat} (h : Q (.exit id) a w) : Exit.then K Q (.exit id) a w := h
theorem t_ret {K : Act → World → Prop} {Q : Exit → Act → World → Prop} {a : Act} {w : World} (h : Q .ret a w) : Exit.then K Q .ret a w := h
theorem b_norm {id : Nat} {Q : Exit → Act → World → Prop} {a : Act} {w : World} (h : Q .normal a w) : Exit.inBlock id Q .normal a w := h
theorem b_ret {id : Nat} {Q : Exit → Act → World → Prop} {a : Act} {w : World} (h : Q .ret a w) : Exit.inBlock id Q .ret a w := h
end Go.Q
namespace Go.Q

def depsOf (ops : List Oper) (i : Nat) : List Nat := match ops[i]? with
  | some o => o.after.toList.filterMap fun e => if Region.binds .any e then some e.on else none
  | none => []
/-- Is j ahead of i? -/
def anc (ops : List Oper) : Nat → Nat → Nat → Bool
  | 0, _, _ => false
  | f + 1, i, j => (depsOf ops i).any fun d => d == j || anc ops f d j
def slot (r : Nat → Value) (o : Oper) : Value := match o.dst with | some t => r t | none => undef
/-- Is a region of that make: no guards, each slot written once, all edges lead back? -/
def flowOk (ops : List Oper) : Bool :=
  ((List.range ops.length).all fun i => match ops[i]? with
    | some o => o.guard.isNone && (depsOf ops i).all (fun d => decide (d < i)) && (List.range ops.length).all fun j => j == i || match ops[j]? with
      | some o' => o.dst.isNone || o'.dst != o.dst
      | none => true
    | none => true)
def puts (vs : Nat → Value) : List Oper → Nat → (Nat → Value) → (Nat → Value)
  | [], _, r => r
  | o :: l, i, r => puts vs l (i + 1) (match o.dst with | some t => upd r t (vs i) | none => r)

theorem puts_old (vs : Nat → Value) (l : List Oper) : ∀ (i : Nat) (r : Nat → Value) (t : Nat), (∀ o ∈ l, o.dst ≠ some t) → puts vs l i r t = r t := by
  induction l with
  | nil => intro i r t _; rfl
  | cons o l ih =>
    intro i r t h
    rw [puts, ih _ _ _ (fun o' ho => h o' (List.mem_cons_of_mem _ ho))]
    have := h o (List.mem_cons_self ..)
    cases hd : o.dst with
    | none => rfl
    | some d => rw [hd] at this; exact upd_ne _ _ (fun e => this (by rw [e]))
theorem puts_new (vs : Nat → Value) (l : List Oper) : ∀ (i k : Nat) (r : Nat → Value) (o : Oper) (t : Nat), l[k]? = some o → o.dst = some t →
    (∀ j o', l[j]? = some o' → j ≠ k → o'.dst ≠ some t) → puts vs l i r t = vs (i + k) := by
  induction l with
  | nil => intro i k r o t h; simp at h
  | cons o l ih =>
    intro i k r o' t h hd hne
    cases k with
    | zero =>
      simp at h; subst h
      rw [puts, hd, puts_old]
      · simp only [Nat.add_zero]; exact upd_same _ _ _
      · intro o' ho
        obtain ⟨j, hj⟩ := List.getElem?_of_mem ho
        exact hne (j + 1) o' (by simpa using hj) (by omega)
    | succ k =>
      rw [puts, ih (i + 1) k _ o' t (by simpa using h) hd (fun j o'' hj hjk => hne (j + 1) o'' (by simpa using hj) (by omega))]
      congr 1; omega

theorem flowOk_spec {ops : List Oper} (h : flowOk ops = true) {i : Nat} {o : Oper} (ho : ops[i]? = some o) :
    o.guard = none ∧ (∀ d ∈ depsOf ops i, d < i) ∧ ∀ j o' t, ops[j]? = some o' → j ≠ i → o.dst = some t → o'.dst ≠ some t := by
  unfold flowOk at h
  rw [List.all_eq_true] at h
  have hi : i < ops.length := (List.getElem?_eq_some_iff.1 ho).1
  have h1 := h i (List.mem_range.2 hi)
  simp only [ho, Bool.and_eq_true, List.all_eq_true, decide_eq_true_eq] at h1
  obtain ⟨⟨hg, hd⟩, hj⟩ := h1
  refine ⟨by simpa using hg, hd, fun j o' t hj' hne ht => ?_⟩
  have := hj j (List.mem_range.2 (List.getElem?_eq_some_iff.1 hj').1)
  simp only [hj', ht, Option.isNone_some, Bool.false_or, Bool.or_eq_true, beq_iff_eq, bne_iff_ne] at this
  rcases this with h | h
  · exact absurd h hne
  · exact h

theorem anc_trans {ops : List Oper} (_h : flowOk ops = true) {listed : Array Bool} (hc : ∀ i, listed.getD i false = true → ∀ d ∈ depsOf ops i, listed.getD d false = true) :
    ∀ f i j, anc ops f i j = true → (∀ d ∈ depsOf ops i, listed.getD d false = true) → listed.getD j false = true := by
  intro f
  induction f with
  | zero => intro i j h; simp [anc] at h
  | succ f ih =>
    intro i j h hd
    rw [anc, List.any_eq_true] at h
    obtain ⟨d, hdm, hh⟩ := h
    rw [Bool.or_eq_true] at hh
    rcases hh with e | e
    · rw [← beq_iff_eq.1 e]; exact hd d hdm
    · exact ih d j e (hc d (hd d hdm))

theorem mem_depsOf {ops : List Oper} {i : Nat} {o : Oper} (ho : ops[i]? = some o) {e : Edge} (he : e ∈ o.after) (hb : Region.binds .any e = true) : e.on ∈ depsOf ops i := by
  unfold depsOf
  rw [ho]
  exact List.mem_filterMap.2 ⟨e, by simpa using he, by rw [if_pos hb]⟩

/-- What an operation of the region is handed when its turn comes. -/
structure Turn (E : World) (ops : List Oper) (F : List (List Hp)) (C : Nat → List Hp) (Tp : Nat → Value → List Hp → Prop) (N : Nat) (r : Nat → Value) (i : Nat) (r' : Nat → Value) (w : World) (G : List (List Hp)) (hs : Nat → List Hp) : Prop where
  has : Has E w (C i :: G)
  fr : ∀ s ∈ F, s ⊆ G.flatten
  done : ∀ j o, ops[j]? = some o → anc ops ops.length i j = true → Tp j (slot r' o) (hs j) ∧ hs j ⊆ G.flatten
  todo : ∀ j, anc ops ops.length j i = true → C j ⊆ G.flatten
  old : ∀ t, (∀ j o, ops[j]? = some o → o.dst = some t → j = i ∨ anc ops ops.length j i = true) → r' t = r t
  each : ∀ j o, ops[j]? = some o → j ≠ i → C j ⊆ G.flatten ∨ (∃ v, Tp j v (hs j)) ∧ hs j ⊆ G.flatten

theorem c_flow {P : Program} {Q : Exit → Act → World → Prop} {E w : World} {N : Nat} {r : Nat → Value} {id : Nat} {ops : List Oper} (F : List (List Hp)) (C : Nat → List Hp) (Tp : Nat → Value → List Hp → Prop)
    (hm : P.follows .mixedOrders = true) (hok : flowOk ops = true) (H : Has E w (F ++ (List.range ops.length).map C))
    (step : ∀ i o, ops[i]? = some o → ∀ r' w' G hs, Turn E ops F C Tp N r i r' w' G hs → OK P o (ev N r') w' fun v w'' => ∃ h', Tp i (match o.dst with | some _ => v | none => undef) h' ∧ Has E w'' (h' :: G))
    (fin : ∀ (vs : Nat → Value) (hs : Nat → List Hp) w', (∀ i o, ops[i]? = some o → Tp i (vs i) (hs i)) → Has E w' (F ++ (List.range ops.length).map hs) → Q .normal (Go.Q.fr N (puts vs ops 0 r)) w') :
    (Code.region id ops.toArray true).wp P Q (Go.Q.fr N r) w := by
  refine wp_region_any hm ?_
  -- the state while some are done
  let Inv : Array Bool → Act → World → Prop := fun listed a w => listed.size = ops.length ∧ (∀ i, listed.getD i false = true → ∀ d ∈ depsOf ops i, listed.getD d false = true) ∧
    ∃ r' hs, a = Go.Q.fr N r' ∧ Has E w (F ++ (List.range ops.length).map hs) ∧ (∀ i o, ops[i]? = some o → if listed.getD i false = true then o.dst.isSome = true ∧ Tp i (slot r' o) (hs i) ∨ o.dst = none ∧ Tp i undef (hs i) else hs i = C i) ∧
    (∀ t, (∀ i o, ops[i]? = some o → o.dst = some t → listed.getD i false = false) → r' t = r t)
  have key : ∀ fuel listed a w, Inv listed a w → (List.range ops.length).countP (fun i => !listed.getD i false) ≤ fuel → wpAny P .any ops.toArray Q fuel listed a w := by
    have ready0 : ∀ listed : Array Bool, listed.size = ops.length → Region.ready .any ops.toArray listed = [] → ∀ i, i < ops.length → listed.getD i false = true := by
      intro listed hsz hr i
      induction i using Nat.strongRecOn with
      | _ i ih =>
        intro hi
        cases hl : listed.getD i false with
        | true => rfl
        | false =>
          exfalso
          obtain ⟨o, ho⟩ : ∃ o, ops[i]? = some o := ⟨_, List.getElem?_eq_getElem hi⟩
          have : i ∈ Region.ready .any ops.toArray listed := by
            refine mem_ready.2 ⟨?_, o, by simpa using ho, fun e he hb => ?_⟩
            · have : i < listed.size := by omega
              simp [this] at hl ⊢; exact hl
            · have hd := mem_depsOf ho he hb
              have hlt := (flowOk_spec hok ho).2.1 _ hd
              exact ih _ hlt (by omega)
          rw [hr] at this; cases this
    have fin' : ∀ listed a w, Inv listed a w → Region.ready .any ops.toArray listed = [] → Q .normal a w := by
      rintro listed a w ⟨hsz, _, r', hs, rfl, hH, hT, hold⟩ hr
      have hall := ready0 listed hsz hr
      let vs : Nat → Value := fun i => match ops[i]? with | some o => slot r' o | none => undef
      have e : Go.Q.fr N r' = Go.Q.fr N (puts vs ops 0 r) := by
        refine fr_congr fun t _ => ?_
        by_cases hex : ∃ (i : Nat) (o : Oper), ops[i]? = some o ∧ o.dst = some t
        · obtain ⟨i, o, ho, hd⟩ := hex
          rw [puts_new vs ops 0 i r o t ho hd (fun j o' hj hne => (flowOk_spec hok ho).2.2 j o' t hj hne hd)]
          simp [vs, ho, slot, hd]
        · rw [puts_old vs ops 0 r t (fun o ho hd => by obtain ⟨j, hj⟩ := List.getElem?_of_mem ho; exact hex ⟨j, o, hj, hd⟩)]
          exact hold t (fun i o ho hd => absurd ⟨i, o, ho, hd⟩ hex)
      rw [e]
      refine fin vs hs w (fun i o ho => ?_) hH
      have := hT i o ho
      rw [if_pos (hall i (List.getElem?_eq_some_iff.1 ho).1)] at this
      simp only [vs, ho]
      rcases this with ⟨_, h⟩ | ⟨hn, h⟩
      · exact h
      · unfold slot; rw [hn]; exact h
    intro fuel
    induction fuel with
    | zero =>
      intro listed a w hI hc
      have hr : Region.ready .any ops.toArray listed = [] := by
        rw [List.eq_nil_iff_forall_not_mem]
        intro i hi
        obtain ⟨h0, o, ho, _⟩ := mem_ready.1 hi
        have hlt : i < ops.length := by simpa using (Array.getElem?_eq_some_iff.1 ho).1
        have : listed.getD i false = false := by
          have hs : i < listed.size := by rw [hI.1]; exact hlt
          simp [hs] at h0 ⊢; exact h0
        have hp : 0 < (List.range ops.length).countP (fun i => !listed.getD i false) := List.countP_pos_iff.2 ⟨i, List.mem_range.2 hlt, by rw [this]; rfl⟩
        omega
      exact ⟨hr, fin' listed a w hI hr⟩
    | succ fuel ih =>
      intro listed a w hI hc
      refine ⟨fin' listed a w hI, fun i hi => ?_⟩
      obtain ⟨hsz, hcl, r', hs, rfl, hH, hT, hold⟩ := hI
      obtain ⟨h0, o, ho', hdone⟩ := mem_ready.1 hi
      have ho : ops[i]? = some o := by simpa using ho'
      have hlt : i < ops.length := (List.getElem?_eq_some_iff.1 ho).1
      have hli : listed.getD i false = false := by
        have hs : i < listed.size := by omega
        simp [hs] at h0 ⊢; exact h0
      obtain ⟨hg, hdlt, hdist⟩ := flowOk_spec hok ho
      have hdeps : ∀ d ∈ depsOf ops i, listed.getD d false = true := by
        intro d hd
        unfold depsOf at hd
        rw [ho] at hd
        obtain ⟨e, he, heq⟩ := List.mem_filterMap.1 hd
        split at heq
        · cases heq; exact hdone e (by simpa using he) (by assumption)
        · cases heq
      -- the heaplets: the one at i in front
      let G : List (List Hp) := F ++ ((List.range i).map hs ++ (List.range' (i + 1) (ops.length - (i + 1))).map hs)
      have hsplit : List.range ops.length = List.range i ++ i :: List.range' (i + 1) (ops.length - (i + 1)) := by
        rw [List.range_eq_range', List.range_eq_range', show i :: List.range' (i + 1) (ops.length - (i + 1)) = List.range' i (ops.length - i) from by
          rw [show ops.length - i = (ops.length - (i + 1)) + 1 by omega, List.range'_succ]]
        have := List.range'_append_1 (s := 0) (m := i) (n := ops.length - i)
        rw [Nat.zero_add] at this
        rw [this]; congr 1; omega
      have mapsplit : ∀ f : Nat → List Hp, (List.range ops.length).map f = (List.range i).map f ++ f i :: (List.range' (i + 1) (ops.length - (i + 1))).map f := by
        intro f; rw [hsplit]; simp
      have hperm : ∀ f : Nat → List Hp, (F ++ (List.range ops.length).map f).Perm (f i :: (F ++ ((List.range i).map f ++ (List.range' (i + 1) (ops.length - (i + 1))).map f))) := by
        intro f
        rw [mapsplit f, ← List.append_assoc, ← List.append_assoc]
        exact List.perm_middle
      have hhi : hs i = C i := by have := hT i o ho; rw [if_neg (by rw [hli]; simp)] at this; exact this
      have inG : ∀ j, j < ops.length → j ≠ i → hs j ∈ G := by
        intro j hj hne
        refine List.mem_append_right _ ?_
        rcases Nat.lt_or_gt_of_ne hne with h | h
        · exact List.mem_append_left _ (List.mem_map.2 ⟨j, List.mem_range.2 h, rfl⟩)
        · exact List.mem_append_right _ (List.mem_map.2 ⟨j, by rw [List.mem_range'_1]; omega, rfl⟩)
      have subG : ∀ s ∈ G, s ⊆ G.flatten := fun s hs' x hx => List.mem_flatten.2 ⟨s, hs', hx⟩
      have ancNe : ∀ j, listed.getD j false = true → j ≠ i := fun j hj e => by rw [e, hli] at hj; cases hj
      have turn : Turn E ops F C Tp N r i r' w G hs := by
        refine ⟨?_, fun s hs' => subG s (List.mem_append_left _ hs'), fun j oj hoj hanc => ?_, fun j hanc => ?_, fun t ht => ?_, fun j oj hoj hne => ?_⟩
        · rw [← hhi]; exact hH.perm (hperm hs).symm
        · have hl := anc_trans hok hcl _ i j hanc hdeps
          refine ⟨?_, subG _ (inG j (List.getElem?_eq_some_iff.1 hoj).1 (ancNe j hl))⟩
          have := hT j oj hoj
          rw [if_pos hl] at this
          rcases this with ⟨_, h⟩ | ⟨hn, h⟩
          · exact h
          · unfold slot; rw [hn]; exact h
        · cases hj : ops[j]? with
          | none =>
            exfalso
            unfold anc at hanc
            split at hanc
            · cases hanc
            · simp [depsOf, hj] at hanc
          | some oj =>
            have hnl : listed.getD j false = false := by
              cases hl : listed.getD j false with
              | false => rfl
              | true =>
                have := anc_trans hok hcl _ j i hanc (hcl j hl)
                rw [hli] at this; cases this
            have hjl := (List.getElem?_eq_some_iff.1 hj).1
            have hne : j ≠ i := by
              rintro rfl
              have := anc_trans hok hcl _ j j hanc hdeps
              rw [hli] at this; cases this
            have := hT j oj hj
            rw [if_neg (by rw [hnl]; simp)] at this
            rw [← this]; exact subG _ (inG j hjl hne)
        · refine hold t (fun j oj hoj hd => ?_)
          rcases ht j oj hoj hd with rfl | hanc
          · exact hli
          · cases hl : listed.getD j false with
            | false => rfl
            | true =>
              have := anc_trans hok hcl _ j i hanc (hcl j hl)
              rw [hli] at this; cases this
        · have hG := subG _ (inG j (List.getElem?_eq_some_iff.1 hoj).1 hne)
          have := hT j oj hoj
          cases hl : listed.getD j false with
          | true =>
            rw [if_pos hl] at this
            rcases this with ⟨_, h⟩ | ⟨_, h⟩
            · exact .inr ⟨⟨_, h⟩, hG⟩
            · exact .inr ⟨⟨_, h⟩, hG⟩
          | false =>
            rw [if_neg (by rw [hl]; simp)] at this
            rw [← this]; exact .inl hG
      have hstep := step i o ho r' w G hs turn
      unfold wpOp
      simp only [show ops.toArray[i]? = some o from ho']
      rw [if_pos (by simp [Region.wanted, hg])]
      refine .inl (OK.wp ?_)
      rw [fr_eval]
      refine hstep.mono fun v w'' ⟨h', hTi, hH'⟩ => ?_
      refine ih _ _ _ ⟨by simpa using hsz, ?_, ?_⟩ ?_
      · intro j hj d hd
        by_cases hji : i = j
        · subst hji; exact getD_set_true (hdeps d hd)
        · rw [getD_set_ne false hji] at hj
          exact getD_set_true (hcl j hj d hd)
      · let hs' : Nat → List Hp := fun j => if j = i then h' else hs j
        have hsG : F ++ ((List.range i).map hs' ++ (List.range' (i + 1) (ops.length - (i + 1))).map hs') = G := by
          have e1 : (List.range i).map hs' = (List.range i).map hs := List.map_congr_left fun j hj => by
            have := List.mem_range.1 hj; simp only [hs']; rw [if_neg (by omega)]
          have e2 : (List.range' (i + 1) (ops.length - (i + 1))).map hs' = (List.range' (i + 1) (ops.length - (i + 1))).map hs := List.map_congr_left fun j hj => by
            have := List.mem_range'_1.1 hj; simp only [hs']; rw [if_neg (by omega)]
          rw [e1, e2]
        have hH2 : Has E w'' (F ++ (List.range ops.length).map hs') := by
          refine hH'.perm ((hperm hs').trans ?_)
          rw [hsG]
          simp [hs']
        have hset : ∀ j, j ≠ i → (listed.setIfInBounds i true).getD j false = listed.getD j false := fun j hj => getD_set_ne false (Ne.symm hj)
        have hseti : (listed.setIfInBounds i true).getD i false = true := by
          have : i < listed.size := by omega
          simp [this]
        cases hd : o.dst with
        | none =>
          refine ⟨r', hs', by rw [fr_put_none], hH2, fun j oj hoj => ?_, fun t ht => hold t fun j oj hoj hdj => ?_⟩
          · by_cases hji : j = i
            · subst hji
              rw [ho] at hoj; cases hoj
              rw [if_pos hseti]
              rw [hd] at hTi
              exact .inr ⟨hd, by simpa [hs'] using hTi⟩
            · rw [hset j hji]
              have := hT j oj hoj
              simpa [hs', hji] using this
          · by_cases hji : j = i
            · subst hji; exact hli
            · have := ht j oj hoj hdj; rwa [hset j hji] at this
        | some d =>
          refine ⟨upd r' d v, hs', by rw [fr_put], hH2, fun j oj hoj => ?_, fun t ht => ?_⟩
          · by_cases hji : j = i
            · subst hji
              rw [ho] at hoj; cases hoj
              rw [if_pos hseti]
              refine .inl ⟨by rw [hd]; rfl, ?_⟩
              rw [hd] at hTi
              simp only [slot, hd, upd_same, hs', if_true]; exact hTi
            · rw [hset j hji]
              have := hT j oj hoj
              have hne : oj.dst ≠ some d := hdist j oj d hoj hji hd
              have hsl : slot (upd r' d v) oj = slot r' oj := by
                unfold slot
                cases hdj : oj.dst with
                | none => rfl
                | some t => exact upd_ne _ _ (fun e => hne (by rw [hdj, e]))
              simpa [hs', hji, hsl] using this
          · have hne : t ≠ d := by
              rintro rfl
              have := ht i o ho hd
              rw [hseti] at this; cases this
            rw [upd_ne _ _ hne]
            refine hold t fun j oj hoj hdj => ?_
            by_cases hji : j = i
            · subst hji; exact hli
            · have := ht j oj hoj hdj; rwa [hset j hji] at this
      · have : (List.range ops.length).countP (fun j => !(listed.setIfInBounds i true).getD j false) < (List.range ops.length).countP (fun j => !listed.getD j false) := by
          have hset : ∀ j, j ≠ i → (listed.setIfInBounds i true).getD j false = listed.getD j false := fun j hj => getD_set_ne false (Ne.symm hj)
          have hseti : (listed.setIfInBounds i true).getD i false = true := by
            have : i < listed.size := by omega
            simp [this]
          rw [hsplit, List.countP_append, List.countP_cons, List.countP_append, List.countP_cons, hseti, hli]
          have e1 : (List.range i).countP (fun j => !(listed.setIfInBounds i true).getD j false) = (List.range i).countP (fun j => !listed.getD j false) :=
            List.countP_congr fun j hj => by have := List.mem_range.1 hj; rw [hset j (by omega)]
          have e2 : (List.range' (i + 1) (ops.length - (i + 1))).countP (fun j => !(listed.setIfInBounds i true).getD j false) = (List.range' (i + 1) (ops.length - (i + 1))).countP (fun j => !listed.getD j false) :=
            List.countP_congr fun j hj => by have := List.mem_range'_1.1 hj; rw [hset j (by omega)]
          rw [e1, e2]; simp
        omega
  have h0 : Inv (Array.replicate ops.toArray.size false) (Go.Q.fr N r) { w with drawn := w.drawn + 1 } := by
    have hf : ∀ i, (Array.replicate ops.toArray.size false).getD i false = false := by
      intro i; by_cases h : i < ops.length <;> simp [h]
    refine ⟨by simp, fun i hi => ?_, r, C, rfl, H.drew _, fun i o _ => ?_, fun _ _ => rfl⟩
    · rw [hf] at hi; cases hi
    · rw [if_neg (by rw [hf]; simp)]
  refine key _ _ _ _ h0 ?_
  refine Nat.le_trans List.countP_le_length (by simp)

/-- May slot t be read at i's turn as it was ahead of the region? -/
def oldB (ops : List Oper) (i t : Nat) : Bool := (List.range ops.length).all fun j => match ops[j]? with
  | some o => o.dst != some t || j == i || anc ops ops.length j i
  | none => true
theorem Turn.was {E : World} {ops : List Oper} {F : List (List Hp)} {C : Nat → List Hp} {Tp : Nat → Value → List Hp → Prop} {N : Nat} {r : Nat → Value} {i : Nat} {r' : Nat → Value} {w : World} {G : List (List Hp)} {hs : Nat → List Hp}
    (H : Turn E ops F C Tp N r i r' w G hs) (t : Nat) (h : oldB ops i t = true) : r' t = r t := by
  refine H.old t fun j o ho hd => ?_
  unfold oldB at h
  rw [List.all_eq_true] at h
  have := h j (List.mem_range.2 (List.getElem?_eq_some_iff.1 ho).1)
  simp only [ho, Bool.or_eq_true, bne_iff_ne, beq_iff_eq] at this
  rcases this with (h | h) | h
  · exact absurd hd h
  · exact .inl h
  · exact .inr h
theorem flow_has {E w : World} {F cs : List (List Hp)} {C : Nat → List Hp} {n : Nat} (H : Has E w (F ++ cs)) (h : ((List.range n).map C).flatten = cs.flatten) : Has E w (F ++ (List.range n).map C) := by
  unfold Has at *; rw [List.flatten_append, h, ← List.flatten_append]; exact H
theorem flow_back {E w : World} {F cs : List (List Hp)} {C : Nat → List Hp} {n : Nat} (H : Has E w (F ++ (List.range n).map C)) (h : ((List.range n).map C).flatten = cs.flatten) : Has E w (F ++ cs) := by
  unfold Has at *; rw [List.flatten_append, ← h, ← List.flatten_append]; exact H
theorem sl_lit {α : Type} {f : α → Value} {l : List α} {b : Nat} {c : Array Value} {T : TypeId} {g : Nat × Nat} {n : Nat} (hc : c.toList = l.map f) (hn : l.length = n) (hm : n ≤ 9223372036854775807) :
    Sl [Hp.one b (.cells c T g)] 1 (.slice (some ⟨b, 0, none⟩) n n) l.length (l.map f) := by
  subst hn
  refine ⟨_, _, rfl, Nat.le_refl _, hm, by simp, fun _ => ⟨b, 0, rfl, CellsAt.one ?_⟩⟩
  rw [hc]; simp only [List.drop_zero]; exact List.take_of_length_le (by simp)
theorem sub_r {L s : List Hp} {G : List (List Hp)} (h : L ⊆ G.flatten) : L ⊆ (s :: G).flatten := fun _ hx => by simp only [List.flatten_cons]; exact List.mem_append_right _ (h hx)
theorem sub_l {s : List Hp} {G : List (List Hp)} : s ⊆ (s :: G).flatten := fun _ hx => by simp only [List.flatten_cons]; exact List.mem_append_left _ hx
section args
variable {ρ : Operand → Value} {a b c d e f : Operand} {u v x y z t : Value}
theorem args0 : #[] ++ (#[] : Array Operand).map ρ ++ #[] = #[] := by simp
theorem args1 (h1 : ρ a = u) : #[] ++ #[a].map ρ ++ #[] = #[u] := by simp [*]
theorem args2 (h1 : ρ a = u) (h2 : ρ b = v) : #[] ++ #[a, b].map ρ ++ #[] = #[u, v] := by simp [*]
theorem args3 (h1 : ρ a = u) (h2 : ρ b = v) (h3 : ρ c = x) : #[] ++ #[a, b, c].map ρ ++ #[] = #[u, v, x] := by simp [*]
theorem args4 (h1 : ρ a = u) (h2 : ρ b = v) (h3 : ρ c = x) (h4 : ρ d = y) : #[] ++ #[a, b, c, d].map ρ ++ #[] = #[u, v, x, y] := by simp [*]
theorem args5 (h1 : ρ a = u) (h2 : ρ b = v) (h3 : ρ c = x) (h4 : ρ d = y) (h5 : ρ e = z) : #[] ++ #[a, b, c, d, e].map ρ ++ #[] = #[u, v, x, y, z] := by simp [*]
theorem args6 (h1 : ρ a = u) (h2 : ρ b = v) (h3 : ρ c = x) (h4 : ρ d = y) (h5 : ρ e = z) (h6 : ρ f = t) : #[] ++ #[a, b, c, d, e, f].map ρ ++ #[] = #[u, v, x, y, z, t] := by simp [*]
theorem parts0 : (#[] : Array (Nat × Operand)).map (fun (i, x) => (i, ρ x)) = #[] := by simp
theorem parts1 {i : Nat} (h1 : ρ a = u) : #[(i, a)].map (fun (i, x) => (i, ρ x)) = #[(i, u)] := by simp [*]
theorem parts2 {i j : Nat} (h1 : ρ a = u) (h2 : ρ b = v) : #[(i, a), (j, b)].map (fun (i, x) => (i, ρ x)) = #[(i, u), (j, v)] := by simp [*]
theorem parts3 {i j k : Nat} (h1 : ρ a = u) (h2 : ρ b = v) (h3 : ρ c = x) : #[(i, a), (j, b), (k, c)].map (fun (i, x) => (i, ρ x)) = #[(i, u), (j, v), (k, x)] := by simp [*]
theorem parts4 {i j k l : Nat} (h1 : ρ a = u) (h2 : ρ b = v) (h3 : ρ c = x) (h4 : ρ d = y) : #[(i, a), (j, b), (k, c), (l, d)].map (fun (i, x) => (i, ρ x)) = #[(i, u), (j, v), (k, x), (l, y)] := by simp [*]
theorem parts5 {i j k l m : Nat} (h1 : ρ a = u) (h2 : ρ b = v) (h3 : ρ c = x) (h4 : ρ d = y) (h5 : ρ e = z) : #[(i, a), (j, b), (k, c), (l, d), (m, e)].map (fun (i, x) => (i, ρ x)) = #[(i, u), (j, v), (k, x), (l, y), (m, z)] := by simp [*]
end args
def by8 (x : Int) : UInt8 := UInt8.ofNat (x % 256).toNat
theorem wrap_by8 (x : Int) : IntKind.wrap .u8 x = ((by8 x).toNat : Int) := by
  unfold by8
  have h0 : 0 ≤ x % 256 := Int.emod_nonneg _ (by omega)
  have h1 : x % 256 < 256 := Int.emod_lt_of_pos _ (by omega)
  rw [UInt8.toNat_ofNat']
  simp only [IntKind.wrap, IntKind.bits, IntKind.signed]
  have : (x % 256).toNat % 2 ^ 8 = (x % 256).toNat := Nat.mod_eq_of_lt (by omega)
  rw [this]
  simp
  omega
theorem Has.first {E w : World} {ss ts : List (List Hp)} (H : Has E w ss) (n : Nat) (h : ss.take n = ts) : Has E w ts := h ▸ H.sub (List.take_sublist _ _)
theorem Has.nil {E w : World} {ss : List (List Hp)} (H : Has E w ss) : Has E w ([] :: ss) := by unfold Has at *; simpa using H
theorem not_dec {p : Prop} [Decidable p] : (!decide p) = decide (¬ p) := by simp
theorem sl_nil {L : List Hp} (sz : Nat) : Sl L sz (.slice none 0 0) 0 [] := ⟨none, 0, rfl, Nat.le_refl _, by omega, by simp, fun h => by omega⟩
def sV (l : List UInt8) : Value := S l
theorem one_iV (l : List Int) : ∀ u ∈ l.map iV, u.oneCell' = true := by intro u hu; obtain ⟨x, _, rfl⟩ := List.mem_map.1 hu; rfl
theorem one_bV (l : List UInt8) : ∀ u ∈ l.map bV, u.oneCell' = true := by intro u hu; obtain ⟨x, _, rfl⟩ := List.mem_map.1 hu; rfl
theorem one_sV (l : List (List UInt8)) : ∀ u ∈ l.map sV, u.oneCell' = true := by intro u hu; obtain ⟨x, _, rfl⟩ := List.mem_map.1 hu; rfl
theorem Own.app {α : Type} {f : α → Value} {e : TypeId} {sz n m : Nat} {v : Value} {a b : List α} {hs : List Hp} (H : Own e sz v (n + m) (a.map f ++ b.map f) hs) (hn : n = a.length := by rfl) (hm : m = b.length := by rfl) :
    Own e sz v (a ++ b).length ((a ++ b).map f) hs := by
  subst hn hm
  rw [List.length_append, List.map_append]; exact H
section ops
variable {P : Program} {ρ : Operand → Value} {E w : World} {ss : List (List Hp)} {K : Value → World → Prop} {dst : Option Tmp} {T : TypeId} {pos : String} {after : Array Edge} {g : Option (Nat × Bool)}
theorem o_pick_t {c x y : Operand} {u : Value} (hc : ρ c = .bool true) (hx : ρ x = u) (h : K u w) : OK P ⟨dst, .pick c x y, T, pos, after, g⟩ ρ w K :=
  o_pick hc rfl rfl (by rw [hx]; exact h)
theorem o_pick_f {c x y : Operand} {u : Value} (hc : ρ c = .bool false) (hy : ρ y = u) (h : K u w) : OK P ⟨dst, .pick c x y, T, pos, after, g⟩ ρ w K :=
  o_pick hc rfl rfl (by rw [hy]; exact h)
/-- string(b) -/
theorem o_bstr {s e t : TypeId} {x : Operand} {v : Value} {L : List Hp} {n : Nat} {l : List UInt8} (hs : P.underlying s = some (.slice e)) (he : P.underlying e = some (.int .u8)) (ht : P.underlying t = some .string)
    (hx : ρ x = v) (hr : Sl L 1 v n (l.map bV)) (H : Has E w ss) (hL : L ⊆ ss.flatten) (hK : K (S l) w) : OK P ⟨dst, .convert s t x, T, pos, after, g⟩ ρ w K := by
  refine OK.val (run_v ?_) hK
  obtain ⟨p, cap, rfl, _, _, hl, hp⟩ := hr
  rw [hx, run_convert_bytes_string w s t e p n cap hs he ht]
  have fold : ∀ (l : List UInt8) (b : ByteArray), (l.map fun c => ((c.toNat : Nat) : Int)).foldl (fun r n => r.push (UInt8.ofNat n.toNat)) b = ⟨b.data ++ l.toArray⟩ := by
    intro l
    induction l with
    | nil => intro b; simp
    | cons c l ih => intro b; simp only [List.map_cons, List.foldl_cons]; rw [ih]; apply ByteArray.ext; simp [ByteArray.push]
  have hn : l.length = n := by simpa using hl
  by_cases h0 : n = 0
  · subst h0
    obtain rfl : l = [] := by simpa using hn
    cases p with
    | none => simp [Conv.bytesToString, S]; rfl
    | some a =>
      have := run_bytesToString (P := P) w a 0 cap [] (by simp [loadCells, loadCellsFrom])
      rw [this]; simp [S]; rfl
  · obtain ⟨b, off, rfl, hc⟩ := hp (by omega)
    have := run_bytesToString (P := P) w ⟨b, off, none⟩ n cap (l.map fun c => ((c.toNat : Nat) : Int)) (by
      have h := run_loadCells_list (P := P) (w := w) ⟨b, off, none⟩ (l.map bV) (fun j v hv => by rw [add_lit]; exact H.cell hL hc hv)
      rw [List.length_map, hn] at h
      rw [h, List.map_map]; rfl)
    rw [this, fold]
    simp [S]
theorem o_sstr {s t : TypeId} {x : Operand} {l : List UInt8} (hs : P.underlying s = some .string) (ht : P.underlying t = some .string) (hx : ρ x = S l) (hK : K (S l) w) : OK P ⟨dst, .convert s t x, T, pos, after, g⟩ ρ w K := by
  refine OK.val (run_v ?_) hK
  rw [hx]; unfold S
  simp [convert, run_underlying hs, run_underlying ht]
theorem o_build {t : TypeId} {parts : Array (Nat × Operand)} {ps : Array (Nat × Value)} {v : Value} (hp : parts.map (fun (i, x) => (i, ρ x)) = ps) (hr : ∀ w, (Instr.build t ps).run P w = .ok v w) (hK : K v w) :
    OK P ⟨dst, .build t parts, T, pos, after, g⟩ ρ w K := OK.val (run_v (by rw [show (parts.map fun (i, x) => (i, ρ x)) = ps from hp]; exact hr w)) hK
end ops
theorem s_offu {P : Program} {ops : List Oper} {Q : Exit → Act → World → Prop} {w : World} {rest : List Oper} {N : Nat} {r : Nat → Value} {d : Nat} {op : Op} {T : TypeId} {pos : String} {after : Array Edge} {g : Nat} {b : Bool} (t : Nat)
    (hgt : dstOf ops g = some t) (hv : ev N r (.tmp t) = undef) (h : wpList P ops.toArray Q rest (fr N (upd r d undef)) w) :
    wpList P ops.toArray Q (⟨some d, op, T, pos, after, some (g, b)⟩ :: rest) (fr N r) w := by
  obtain ⟨og, hg, ht⟩ := dstOf_spec ops g hgt
  have hy : yielded ops.toArray (fr N r).tmps g = none := by
    simp only [yielded, hg, ht, Option.bind_some, fr_at]
    by_cases h : t < N
    · have hb : Nat.blt t N = true := by simpa using h
      simp only [ev, hb] at hv
      have hv' : r t = undef := hv
      rw [if_pos h, hv']; rfl
    · rw [if_neg h]
  have hw : Region.wanted ⟨some d, op, T, pos, after, some (g, b)⟩ (yielded ops.toArray (fr N r).tmps) = false := by
    simp only [Region.wanted, hy]; cases b <;> rfl
  unfold wpList
  rw [if_neg (by rw [hw]; simp), fr_put]
  exact h
theorem shr_lit (x : Int) {k : Int} {m : Nat} {d : Int} (hd : 0 ≤ d) (h : (2 : Int) ^ (min k.toNat m) = d) : x.fdiv (2 ^ (min k.toNat m)) = x / d := by
  rw [h]; exact Int.fdiv_eq_ediv_of_nonneg _ hd
theorem shl_lit {x : Int} {k : Int} {m : Nat} {d : Int} (h0 : -9223372036854775808 ≤ x * d) (h1 : x * d ≤ 9223372036854775807) (h : (2 : Int) ^ (min k.toNat m) = d) :
    IntKind.wrap .i64 (x * 2 ^ (min k.toNat m)) = x * d := by rw [h]; exact w64 h0 h1
theorem first_byte {s : List UInt8} {b : UInt8} (h : s[0]? = some b) (hb : b.toNat ≤ 127) : ∀ c, s[0]? = some c → c.toNat ≤ 127 := by
  intro c hc; rw [h] at hc; cases hc; exact hb
end Go.Q
namespace Go.Q

theorem sl_raw {b o sz n cap : Nat} {c : Array Value} {e : TypeId} {g : Nat × Nat} (hfit : o + n * sz ≤ c.size) (hn : n ≤ cap) (hm : cap ≤ 9223372036854775807) :
    Sl [Hp.one b (.cells c e g)] sz (.slice (some ⟨b, o, none⟩) n cap) n ((c.toList.drop o).take (n * sz)) := by
  refine ⟨_, _, rfl, hn, hm, ?_, fun _ => ⟨b, o, rfl, CellsAt.one ?_⟩⟩
  · rw [List.length_take, List.length_drop, Array.length_toList, Nat.min_eq_left (by omega)]
  · rw [List.length_take, List.length_drop, Array.length_toList, Nat.min_eq_left (by omega)]

/-- cells of the front block, written from a place on -/
theorem Has.setRow {E w : World} {ss : List (List Hp)} {b : Nat} {c c' : Array Value} {e : TypeId} (H : Has E w ([Hp.one b (.cells c e (0, 0))] :: ss)) : Has E (w.setRow b c') ([Hp.one b (.cells c' e (0, 0))] :: ss) := by
  have hwb : w.heap[b]? = some (.cells c e (0, 0)) := H.at (h := Hp.one b (.cells c e (0, 0))) (by simp) (Hp.one_at _ _)
  refine Has0.write (an := [Hp.one b (.cells c e (0, 0))]) (an' := [Hp.one b (.cells c' e (0, 0))]) (hs := ss.flatten) H rfl rfl rfl (by simp) ?_ ?_ ?_
  · intro k hk
    have hk := hk _ (List.mem_singleton.2 rfl)
    refine .inl fun h hh => ?_
    rw [List.mem_singleton.1 hh]
    unfold Hp.one at hk ⊢
    split at hk
    · cases hk
    · rw [if_neg (by assumption)]
  · intro h hh k o hk
    rw [List.mem_singleton.1 hh] at hk
    obtain ⟨rfl, rfl⟩ := Hp.one_some hk
    simp only [World.setRow, Array.getElem?_modify]
    simp [hwb]
  · intro k _ hk
    have hk := hk _ (List.mem_singleton.2 rfl)
    have : k ≠ b := by rintro rfl; rw [Hp.one_at] at hk; cases hk
    simp only [World.setRow, Array.getElem?_modify]
    rw [if_neg (by omega)]

section ops
variable {P : Program} {ρ : Operand → Value} {E w : World} {ss : List (List Hp)} {K : Value → World → Prop} {dst : Option Tmp} {T : TypeId} {pos : String} {after : Array Edge} {g : Option (Nat × Bool)}

theorem o_capO {x : Operand} {t e : TypeId} {p : Option Addr} {n c : Nat} (ht : P.underlying t = some (.slice e)) (hx : ρ x = .slice p n c) (h : K (.int .i64 (c : Int)) w) :
    OK P ⟨dst, .call ⟨.builtin .cap, #[x], #[t]⟩, T, pos, after, g⟩ ρ w K := o_cap ht hx h

/-- s[i:], s[:j], s[i:j], s[i:j:k] of a row in block b -/
theorem o_rsl {x : Operand} {lo hi mx : Option Operand} {t e : TypeId} {z : Value} {sz by_ b o n cap : Nat} {i j m : Int} (ht : P.underlying t = some (.slice e)) (hti : TI P e z sz by_)
    (hx : ρ x = .slice (some ⟨b, o, none⟩) n cap)
    (hr : ∀ w, (Instr.sliceBounds true n cap (lo.map ρ) (hi.map ρ) (mx.map ρ)).run P w = .ok (i.toNat, j.toNat, m.toNat) w)
    (h0 : 0 ≤ i) (h1 : i ≤ j) (h2 : j ≤ m)
    (hK : ∀ o' n' c' : Nat, (n' : Int) = j - i → (c' : Int) = m - i → (0 < c' → o' = o + i.toNat * sz) → K (.slice (some ⟨b, o', none⟩) n' c') w) : OK P ⟨dst, .slice t x lo hi mx, T, pos, after, g⟩ ρ w K := by
  have e1 : P.elem t = e := by simp [Program.elem, ht]
  have hrun : (Instr.sliceAt t (ρ x) (lo.map ρ) (hi.map ρ) (mx.map ρ)).run P w = .ok (sliced (some ⟨b, o, none⟩) i.toNat j.toNat m.toNat sz) w := by
    rw [hx, run_sliceAt_slice _ _ _ _ _ _ (by rw [e1]; exact ht), run_slice_any _ _ _ _ _ (by rw [e1]; exact ht), hr, e1]
    simp only [Result.andThen_ok, hti.size]
  by_cases hmi : m = i
  · have : sliced (some (⟨b, o, none⟩ : Addr)) i.toNat j.toNat m.toNat sz = .slice (some ⟨b, o, none⟩) (j.toNat - i.toNat) (m.toNat - i.toNat) := by
      unfold sliced; rw [if_pos (by rw [hmi])]
    rw [this] at hrun
    exact OK.val (run_v hrun) (hK o _ _ (by omega) (by omega) (by omega))
  · have : sliced (some (⟨b, o, none⟩ : Addr)) i.toNat j.toNat m.toNat sz = .slice (some ⟨b, o + i.toNat * sz, none⟩) (j.toNat - i.toNat) (m.toNat - i.toNat) := by
      unfold sliced; rw [if_neg (by omega)]; simp [add_lit]
    rw [this] at hrun
    exact OK.val (run_v hrun) (hK _ _ _ (by omega) (by omega) (fun _ => rfl))
theorem rsl_ex (o sz : Nat) {i j m : Int} (h0 : 0 ≤ i) (h1 : i ≤ j) (h2 : j ≤ m) :
    ∃ o' n' c' : Nat, (o' = if m = i then o else o + i.toNat * sz) ∧ (n' : Int) = j - i ∧ (c' : Int) = m - i ∧ (0 < c' → o' = o + i.toNat * sz) :=
  ⟨_, (j - i).toNat, (m - i).toNat, rfl, by omega, by omega, fun h => if_neg (by omega)⟩
theorem o_rsl2 {x : Operand} {lo hi mx : Option Operand} {t e : TypeId} {z : Value} {sz by_ b o n cap o' n' c' : Nat} {i j m : Int} (ht : P.underlying t = some (.slice e)) (hti : TI P e z sz by_)
    (hx : ρ x = .slice (some ⟨b, o, none⟩) n cap)
    (hr : ∀ w, (Instr.sliceBounds true n cap (lo.map ρ) (hi.map ρ) (mx.map ρ)).run P w = .ok (i.toNat, j.toNat, m.toNat) w)
    (h0 : 0 ≤ i) (h1 : i ≤ j) (h2 : j ≤ m) (ho : o' = if m = i then o else o + i.toNat * sz) (hn : (n' : Int) = j - i) (hc : (c' : Int) = m - i)
    (hK : K (.slice (some ⟨b, o', none⟩) n' c') w) : OK P ⟨dst, .slice t x lo hi mx, T, pos, after, g⟩ ρ w K := by
  have e1 : P.elem t = e := by simp [Program.elem, ht]
  have hrun : (Instr.sliceAt t (ρ x) (lo.map ρ) (hi.map ρ) (mx.map ρ)).run P w = .ok (sliced (some ⟨b, o, none⟩) i.toNat j.toNat m.toNat sz) w := by
    rw [hx, run_sliceAt_slice _ _ _ _ _ _ (by rw [e1]; exact ht), run_slice_any _ _ _ _ _ (by rw [e1]; exact ht), hr, e1]
    simp only [Result.andThen_ok, hti.size]
  obtain rfl : n' = j.toNat - i.toNat := by omega
  obtain rfl : c' = m.toNat - i.toNat := by omega
  subst ho
  by_cases hmi : m = i
  · have : sliced (some (⟨b, o, none⟩ : Addr)) i.toNat j.toNat m.toNat sz = .slice (some ⟨b, o, none⟩) (j.toNat - i.toNat) (m.toNat - i.toNat) := by
      unfold sliced; rw [if_pos (by rw [hmi])]
    rw [this] at hrun
    rw [if_pos hmi] at hK
    exact OK.val (run_v hrun) hK
  · have : sliced (some (⟨b, o, none⟩ : Addr)) i.toNat j.toNat m.toNat sz = .slice (some ⟨b, o + i.toNat * sz, none⟩) (j.toNat - i.toNat) (m.toNat - i.toNat) := by
      unfold sliced; rw [if_neg (by omega)]; simp [add_lit]
    rw [this] at hrun
    rw [if_neg hmi] at hK
    exact OK.val (run_v hrun) hK
theorem rsl_ex3 (o sz : Nat) {i j m : Int} (h0 : 0 ≤ i) (h1 : i ≤ j) (h2 : j ≤ m) : ∃ o' n' c' : Nat, (o' = o + i.toNat * sz) ∧ (n' : Int) = j - i ∧ (c' : Int) = m - i :=
  ⟨_, (j - i).toNat, (m - i).toNat, rfl, by omega, by omega⟩
theorem off3 {o o' sz : Nat} {i m : Int} (h : o' = o + i.toNat * sz) (hm : i < m) : o' = if m = i then o else o + i.toNat * sz := by rw [if_neg (by omega)]; exact h
theorem bounds_l {n cap : Nat} {k : IntKind} {i : Int} (h0 : 0 ≤ i) (h1 : i ≤ n) (w : World) :
    (Instr.sliceBounds true n cap (some (.int k i)) none none).run P w = .ok (i.toNat, ((n : Int)).toNat, ((cap : Int)).toNat) w := by
  simp [Instr.sliceBounds, run_sliceBound, h0, h1]
theorem bounds_h {n cap : Nat} {k : IntKind} {j : Int} (h0 : 0 ≤ j) (h1 : j ≤ cap) (w : World) :
    (Instr.sliceBounds true n cap none (some (.int k j)) none).run P w = .ok ((0 : Int).toNat, j.toNat, ((cap : Int)).toNat) w := by
  simp [Instr.sliceBounds, run_sliceBound, h0, h1]
theorem bounds_lh {n cap : Nat} {k k' : IntKind} {i j : Int} (h0 : 0 ≤ i) (h1 : i ≤ j) (h2 : j ≤ cap) (w : World) :
    (Instr.sliceBounds true n cap (some (.int k i)) (some (.int k' j)) none).run P w = .ok (i.toNat, j.toNat, ((cap : Int)).toNat) w := by
  have e : ((j.toNat : Nat) : Int) = j := Int.toNat_of_nonneg (by omega)
  simp [Instr.sliceBounds, run_sliceBound, h0, h1, h2, e, (show 0 ≤ j by omega)]
theorem bounds_lhm {n cap : Nat} {k k' k'' : IntKind} {i j m : Int} (h0 : 0 ≤ i) (h1 : i ≤ j) (h2 : j ≤ m) (h3 : m ≤ cap) (w : World) :
    (Instr.sliceBounds true n cap (some (.int k i)) (some (.int k' j)) (some (.int k'' m))).run P w = .ok (i.toNat, j.toNat, m.toNat) w := by
  have e : ((j.toNat : Nat) : Int) = j := Int.toNat_of_nonneg (by omega)
  have e' : ((m.toNat : Nat) : Int) = m := Int.toNat_of_nonneg (by omega)
  simp [Instr.sliceBounds, run_sliceBound, h0, h1, h2, h3, e, e', (show 0 ≤ j by omega), (show 0 ≤ m by omega)]

/-- copy into a block of one's own -/
theorem o_copy {x y : Operand} {t u e : TypeId} {z v : Value} {sz by_ b o n cap m : Nat} {c : Array Value} {ds : List Value} {L : List Hp} (ht : P.underlying t = some (.slice e)) (hi : TI P e z sz by_)
    (hx : ρ x = .slice (some ⟨b, o, none⟩) n cap) (hy : ρ y = v) (hs : Sl L sz v m ds) (H : Has E w ([Hp.one b (.cells c e (0, 0))] :: ss)) (hL : L ⊆ ([Hp.one b (.cells c e (0, 0))] :: ss).flatten)
    (hfit : 0 < min m n → o + min m n * sz ≤ c.size) (h1 : ∀ u ∈ ds.take (min m n * sz), u.oneCell' = true)
    (hK : ∀ c' w', c'.size = c.size → c'.toList = (if 0 < min m n then c.toList.take o ++ ds.take (min m n * sz) ++ c.toList.drop (o + min m n * sz) else c.toList) → Has E w' ([Hp.one b (.cells c' e (0, 0))] :: ss) → K (.int .i64 ((min m n : Nat) : Int)) w') :
    OK P ⟨dst, .call ⟨.builtin .copy, #[x, y], #[t, u]⟩, T, pos, after, g⟩ ρ w K := by
  obtain ⟨p, cap', rfl, hmc, _, hl, hp⟩ := hs
  obtain ⟨i, hi, hiz, rfl, hiby⟩ := hi
  have hwb : w.heap[b]? = some (.cells c e (0, 0)) := H.at (h := Hp.one b (.cells c e (0, 0))) (by simp) (Hp.one_at _ _)
  by_cases hk : 0 < min m n
  · obtain ⟨b', off, rfl, hc⟩ := hp (by omega)
    have hlen : (ds.take (min m n * i.size)).length = min m n * i.size := by
      rw [List.length_take, hl, Nat.min_eq_left (Nat.mul_le_mul_right _ (Nat.min_le_left _ _))]
    have hload := run_loadCells_list (P := P) (w := w) ⟨b', off, none⟩ (ds.take (min m n * i.size)) (fun j v hv => by
      rw [add_lit]
      refine H.cell hL hc ?_
      rw [List.getElem?_take] at hv
      split at hv
      · exact hv
      · cases hv)
    rw [hlen] at hload
    have hst := run_storeCells_at P b o e (ds.take (min m n * i.size)) 0 c w hwb (by rw [hlen]; exact hfit hk) h1
    simp only [Nat.add_zero, hlen] at hst
    refine o_call_builtin (v := .int .i64 ((min m n : Nat) : Int)) (w' := w.setRow b (c.toList.take o ++ ds.take (min m n * i.size) ++ c.toList.drop (o + min m n * i.size)).toArray) ?_ (hK _ _ ?_ (by rw [if_pos hk]) H.setRow)
    · have hmin : m.min n = min m n := rfl
      simp [hx, hy, builtin, Builtin.copy_, run_underlying ht, Builtin.lenOf, Builtin.firstCells, sizeOf, typeInfo, hi, hmin, hload, hst, goInt]
    · have := hfit hk
      simp only [List.size_toArray, List.length_append, List.length_take, List.length_drop, Array.length_toList, hl]
      have h3 : min m n * i.size ≤ m * i.size := Nat.mul_le_mul_right _ (Nat.min_le_left _ _)
      omega
  · have h0 : min m n = 0 := by omega
    refine o_call_builtin (v := .int .i64 ((min m n : Nat) : Int)) (w' := w) ?_ (hK c _ rfl (by rw [if_neg hk]) H)
    have hmin : m.min n = 0 := h0
    cases p with
    | none => simp [hx, hy, builtin, Builtin.copy_, run_underlying ht, Builtin.lenOf, Builtin.firstCells, sizeOf, typeInfo, hi, hmin, h0, goInt, storeCells]
    | some a => simp [hx, hy, builtin, Builtin.copy_, run_underlying ht, Builtin.lenOf, Builtin.firstCells, sizeOf, typeInfo, hi, hmin, h0, goInt, storeCells, loadCells, loadCellsFrom]

/-- append(s, make(S, m)...) where there is no room -/
theorem o_appmake {x y : Operand} {t u e : TypeId} {z : Value} {sz by_ n cap m : Nat} {kk k : IntKind} {q : Int} {cs : List Value} {L : List Hp} {p : Option Addr} (ht : P.underlying t = some (.slice e)) (hu : P.underlying u = some (.int kk)) (hi : TI P e z sz by_)
    (hz : z.cells.size = sz) (hsz : 0 < sz) (hx : ρ x = .slice p n cap) (hs : Sl L sz (.slice p n cap) n cs) (hy : ρ y = .int k q) (hq : q = (m : Int)) (H : Has E w ss) (hL : L ⊆ ss.flatten) (hroom : cap < n + m) (hb : (n + m) * by_ ≤ 140737488355328) (h63 : n + m ≤ 9223372036854775807)
    (hK : ∀ b c cap' w', c.size = cap' * sz → n + m ≤ cap' → cap' ≤ 9223372036854775807 → c.toList.take (n * sz) = cs → Has E w' ([Hp.one b (.cells c e (0, 0))] :: ss) → K (.slice (some ⟨b, 0, none⟩) (n + m) cap') w') :
    OK P ⟨dst, .call ⟨.builtin .append, #[x, y], #[t, u]⟩, T, pos, after, g⟩ ρ w K := by
  subst hq
  obtain ⟨p', cap0, e0, hnc, hcm, hl, hp⟩ := hs
  cases e0
  obtain ⟨i, hi, hiz, rfl, rfl⟩ := hi
  have hlb : m * i.bytes ≤ 140737488355328 := Nat.le_trans (Nat.mul_le_mul_right _ (Nat.le_add_left _ _)) hb
  have hw : IntKind.i64.wrap (m : Int) = m := w64 (by omega) (by omega)
  have n1 : ¬ ((m : Int) < 0) := by omega
  have n2 : ¬ ((281474976710656 : Int) < (m : Int) * (i.bytes : Int)) := by
    have h2 := Int.ofNat_le.2 hlb; rw [Int.natCast_mul] at h2; omega
  have n3 : ¬ (n + m ≤ cap) := by omega
  have n4 : ¬ ((9223372036854775807 : Int) < (n : Int) + (m : Int)) := by omega
  have n5 : ¬ (281474976710656 < Builtin.nextslicecap (n + m) cap * i.bytes) := by
    have := growslice_fits hroom hb; omega
  have hf : ∀ w' : World, (∀ a, w'.cell? a = w.cell? a) → (Builtin.firstCells i.size n (.slice p n cap)).run P w' = .ok cs.toArray w' := by
    intro w' hw'
    by_cases hn : n = 0
    · subst hn
      have : cs = [] := by simpa using hl
      subst this
      cases p <;> simp [Builtin.firstCells, loadCells, loadCellsFrom]
    · obtain ⟨b, off, rfl, hc⟩ := hp (by omega)
      have := run_loadCells_list (P := P) (w := w') ⟨b, off, none⟩ cs (fun j v hv => by rw [add_lit, hw']; exact H.cell hL hc hv)
      rw [hl] at this
      simpa [Builtin.firstCells] using this
  have hf' := hf w.drew (fun a => rfl)
  have hge := grownCap_ge w (n + m) cap e
  have hcm' : grownCap w (n + m) cap e ≤ maxLen := grownCap_le_maxLen w (n + m) cap e (by simpa [maxLen] using h63)
  have hm0 : ¬ (m * i.size = 0) := fun h => by rcases Nat.mul_eq_zero.1 h with h | h <;> omega
  refine o_call_builtin (w' := w.drew.alloc (.cells (cs.toArray ++ Builtin.zeroCells z.cells m ++ Builtin.zeroCells z.cells (grownCap w (n + m) cap e - (n + m))) e)) ?_ (hK w.heap.size _ (grownCap w (n + m) cap e) _ ?_ hge (by simpa [maxLen] using hcm') ?_ (Has.alloc (H.drew _) _))
  · simp [hx, hy, builtin, Builtin.append_, run_underlying ht, run_underlying hu, sizeOf, typeInfo, zeroValue, hi, hiz, asInt, asIntOf, hw, n1, n2, n3, n4, n5, hm0, Question.forced, hf', newRow, grownCap]
  · simp only [Array.size_append, List.size_toArray, size_zeroCells, hz, hl]
    rw [← Nat.add_mul, ← Nat.add_mul]; congr 1; omega
  · simp [← hl]

/-- append into the room that a block of one's own has -/
theorem o_approom {x y : Operand} {t e : TypeId} {z v : Value} {sz by_ b o n cap m : Nat} {c : Array Value} {ds : List Value} {L : List Hp} (ht : P.underlying t = some (.slice e)) (hi : TI P e z sz by_)
    (hx : ρ x = .slice (some ⟨b, o, none⟩) n cap) (hy : ρ y = v) (hs : Sl L sz v m ds) (H : Has E w ([Hp.one b (.cells c e (0, 0))] :: ss)) (hL : L ⊆ ([Hp.one b (.cells c e (0, 0))] :: ss).flatten)
    (hroom : n + m ≤ cap) (hfit : 0 < m → o + (n + m) * sz ≤ c.size) (h1 : ∀ u ∈ ds, u.oneCell' = true)
    (hK : ∀ c' w', c'.size = c.size → c'.toList = (if 0 < m then c.toList.take (o + n * sz) ++ ds ++ c.toList.drop (o + (n + m) * sz) else c.toList) → Has E w' ([Hp.one b (.cells c' e (0, 0))] :: ss) → K (.slice (some ⟨b, o, none⟩) (n + m) cap) w') :
    OK P ⟨dst, .call ⟨.builtin .append, #[x, y], #[t, t]⟩, T, pos, after, g⟩ ρ w K := by
  obtain ⟨p, cap', rfl, hmc, _, hl, hp⟩ := hs
  obtain ⟨i, hi, hiz, rfl, hiby⟩ := hi
  have hwb : w.heap[b]? = some (.cells c e (0, 0)) := H.at (h := Hp.one b (.cells c e (0, 0))) (by simp) (Hp.one_at _ _)
  by_cases hm : 0 < m
  · obtain ⟨b', off, rfl, hc⟩ := hp hm
    have hload := run_loadCells_list (P := P) (w := w) ⟨b', off, none⟩ ds (fun j v hv => by rw [add_lit]; exact H.cell hL hc hv)
    rw [hl] at hload
    have hf := hfit hm
    rw [Nat.add_mul] at hf
    have hst := run_storeCells_at P b (o + n * i.size) e ds 0 c w hwb (by rw [hl]; omega) h1
    simp only [Nat.add_zero, hl] at hst
    refine o_call_builtin (w' := w.setRow b (c.toList.take (o + n * i.size) ++ ds ++ c.toList.drop (o + n * i.size + m * i.size)).toArray) ?_ (hK _ _ (by simp only [List.size_toArray, List.length_append, List.length_take, List.length_drop, Array.length_toList, hl]; omega) (by rw [if_pos hm, Nat.add_mul, Nat.add_assoc]) H.setRow)
    simp [hx, hy, builtin, Builtin.append_, run_underlying ht, Builtin.lenOf, Builtin.firstCells, sizeOf, typeInfo, hi, hroom, hload, add_lit, hst]
  · have h0 : m = 0 := by omega
    subst h0
    refine o_call_builtin (w' := w) ?_ (hK c _ rfl (by rw [if_neg hm]) H)
    have hr : n ≤ cap := hroom
    cases p with
    | none => simp [hx, hy, builtin, Builtin.append_, run_underlying ht, Builtin.lenOf, Builtin.firstCells, sizeOf, typeInfo, hi, hr, storeCells]
    | some a => simp [hx, hy, builtin, Builtin.append_, run_underlying ht, Builtin.lenOf, Builtin.firstCells, sizeOf, typeInfo, hi, hr, storeCells, loadCells, loadCellsFrom]

/-- clear of a part of a block of one's own -/
theorem o_clear {x : Operand} {t e : TypeId} {z : Value} {sz by_ b o n cap : Nat} {c : Array Value} (ht : P.underlying t = some (.slice e)) (hi : TI P e z sz by_) (hzs : z.cells.size = sz)
    (hx : ρ x = .slice (some ⟨b, o, none⟩) n cap) (H : Has E w ([Hp.one b (.cells c e (0, 0))] :: ss)) (hfit : 0 < n → o + n * sz ≤ c.size) (h1 : ∀ u ∈ z.cells, u.oneCell' = true)
    (hK : ∀ c' w' v, c'.toList.length = c.toList.length → c'.toList.take o = c.toList.take o → Has E w' ([Hp.one b (.cells c' e (0, 0))] :: ss) → K v w') :
    OK P ⟨dst, .call ⟨.builtin .clear, #[x], #[t]⟩, T, pos, after, g⟩ ρ w K := by
  obtain ⟨i, hi, hiz, rfl, hiby⟩ := hi
  have hwb : w.heap[b]? = some (.cells c e (0, 0)) := H.at (h := Hp.one b (.cells c e (0, 0))) (by simp) (Hp.one_at _ _)
  cases n with
  | zero =>
    refine o_call_builtin (v := .tuple #[]) (w' := w) ?_ (hK c _ _ rfl rfl H)
    simp [hx, builtin, Builtin.clear_, run_underlying ht]
  | succ n =>
    have hlen : (Builtin.zeroCells z.cells (n + 1)).toList.length = (n + 1) * i.size := by rw [Array.length_toList, size_zeroCells, hzs]
    have hst := run_storeCells_at P b o e (Builtin.zeroCells z.cells (n + 1)).toList 0 c w hwb (by rw [hlen]; exact hfit (by omega)) (by
      intro u hu
      unfold Builtin.zeroCells at hu
      rw [Array.mem_toList_iff, Array.mem_map] at hu
      obtain ⟨j, hj, rfl⟩ := hu
      have hj' := Array.mem_range.1 hj
      have hp : 0 < z.cells.size := by
        rcases Nat.eq_zero_or_pos z.cells.size with h | h
        · rw [h] at hj'; omega
        · exact h
      have hlt : j % z.cells.size < z.cells.size := Nat.mod_lt _ hp
      refine h1 _ ?_
      rw [getElem!_pos z.cells (j % z.cells.size) hlt]
      exact Array.getElem_mem hlt)
    simp only [Nat.add_zero, hlen] at hst
    have hf := hfit (by omega)
    refine o_call_builtin (v := .tuple #[]) (w' := w.setRow b (c.toList.take o ++ (Builtin.zeroCells z.cells (n + 1)).toList ++ c.toList.drop (o + (n + 1) * i.size)).toArray) ?_ (hK _ _ _ ?_ ?_ H.setRow)
    · simp [hx, builtin, Builtin.clear_, run_underlying ht, zeroValue, typeInfo, hi, hiz, hst]
    · simp only [List.length_append, List.length_take, List.length_drop, hlen, Array.length_toList]; omega
    · rw [List.append_assoc, List.take_left']
      rw [List.length_take, Array.length_toList]; omega

/-- slices.overlaps of rows in two blocks -/
theorem o_overlaps {f : FuncId} {fn : Func} {x y : Operand} {ts : Array TypeId} {tS tR e : TypeId} {z : Value} {sz by_ b b' o o' la ca lb cb : Nat} {c c' : Array Value} {U U' : TypeId} (hf : P.funcs[f]? = some fn) (hname : (fn.name == "runtime.NumGoroutine") = false)
    (hb : fn.body.isNone = true) (hn : Extern.findNext fn = none) (he : Extern.find fn = some (Extern.SlicesOverlaps.overlaps #[tS, tS] #[tR])) (ht : P.underlying tS = some (.slice e)) (hi : TI P e z sz by_)
    (hx : ρ x = .slice (some ⟨b, o, none⟩) la ca) (hy : ρ y = .slice (some ⟨b', o', none⟩) lb cb) (H : Has E w ([Hp.one b (.cells c U (0, 0))] :: [Hp.one b' (.cells c' U' (0, 0))] :: ss)) (hc' : c'.size ≠ 0)
    (hρ : ρ (.func f) = .func (.func f) #[] #[]) (hK : K (.bool false) w) : OK P ⟨dst, .call ⟨.value (.func f), #[x, y], ts⟩, T, pos, after, g⟩ ρ w K := by
  have hwb : w.heap[b]? = some (.cells c U (0, 0)) := H.at (h := Hp.one b (.cells c U (0, 0))) (by simp) (Hp.one_at _ _)
  have hwb' : w.heap[b']? = some (.cells c' U' (0, 0)) := H.at (h := Hp.one b' (.cells c' U' (0, 0))) (by simp) (Hp.one_at _ _)
  have hne : b ≠ b' := by
    rintro rfl
    have hd := H.dj
    simp only [List.flatten_cons, List.singleton_append, List.pairwise_cons] at hd
    rcases hd.1 _ (List.mem_cons_self ..) b with h | h <;> rw [Hp.one_at] at h <;> cases h
  have hov := Lib.run_overlaps_apart (P := P) w tS tR e ht sz (fun w => hi.size w) ⟨b, o, none⟩ ⟨b', o', none⟩ la ca lb cb hne U U' c.size c'.size (by simp [World.shape?, hwb]) (by simp [World.shape?, hwb']) hc'
    (by simp [World.frozen?, hwb]) (by simp [World.frozen?, hwb])
  have hr : (execOp ρ ⟨dst, .call ⟨.value (.func f), #[x, y], ts⟩, T, pos, after, g⟩).run P w = .ok (.value (.bool false)) w := by
    have := run_callFunc_extern (P := P) hf hname hb hn he #[.slice (some ⟨b, o, none⟩) la ca, .slice (some ⟨b', o', none⟩) lb cb] w
    rw [hov] at this
    simpa [execOp, resolve, hρ, Deferred.ofValue, invoke, hx, hy] using this
  exact OK.val hr hK
end ops
end Go.Q
namespace Go.Q
theorem insA {α : Type} {c c0 c1 c2 u : List α} {I N D j0 o0 o1 m1 k1 r1 o2 s2 m2 k2 r2 : Nat} (h0 : c0.take j0 = (c.drop o0).take j0) (h1 : c1 = c0.take o1 ++ ((u.drop 0).take m1).take k1 ++ c0.drop r1)
    (h2 : c2 = c1.take o2 ++ ((c.drop s2).take m2).take k2 ++ c1.drop r2) (hj : j0 = I) (ho0 : o0 = 0) (ho1 : o1 = I) (hm1 : m1 = D) (hk1 : k1 = D) (hr1 : r1 = I + D) (ho2 : o2 = I + D) (hs2 : s2 = I) (hm2 : m2 = N - I) (hk2 : k2 = N - I) (hr2 : r2 = N + D)
    (hu : u.length = D) (hIN : I ≤ N) (hNc : N ≤ c.length) (hl : N + D ≤ c0.length) : c2.take (N + D) = c.take I ++ u ++ (c.take N).drop I := by
  rw [hj, ho0] at h0; rw [ho1, hm1, hk1, hr1] at h1; rw [ho2, hs2, hm2, hk2, hr2] at h2
  have e1 : u.take D = u := List.take_of_length_le (by omega)
  have l1 : (c.take I ++ u).length = I + D := by simp only [List.length_append, List.length_take]; omega
  have t1 : c1.take (I + D) = c.take I ++ u := by
    rw [h1, h0, List.drop_zero, List.drop_zero, List.take_take, Nat.min_self, e1, List.take_left' l1]
  have l2 : (c.take I ++ u ++ (c.take N).drop I).length = N + D := by simp only [List.length_append, List.length_drop, List.length_take] at l1 ⊢; omega
  rw [h2, t1, List.take_take, Nat.min_self, ← List.drop_take, List.take_left' l2]
theorem insB {α : Type} {c c1 c2 u : List α} {I N D o1 s1 m1 k1 r1 o2 m2 k2 r2 : Nat} (h1 : c1 = c.take o1 ++ ((c.drop s1).take m1).take k1 ++ c.drop r1)
    (h2 : c2 = c1.take o2 ++ ((u.drop 0).take m2).take k2 ++ c1.drop r2) (ho1 : o1 = I + D) (hs1 : s1 = I) (hm1 : m1 = N + D - I) (hk1 : k1 = N - I) (hr1 : r1 = N + D) (ho2 : o2 = I) (hm2 : m2 = D) (hk2 : k2 = D) (hr2 : r2 = I + D)
    (hu : u.length = D) (hIN : I ≤ N) (hl : N + D ≤ c.length) : c2.take (N + D) = c.take I ++ u ++ (c.take N).drop I := by
  rw [ho1, hs1, hm1, hk1, hr1] at h1; rw [ho2, hm2, hk2, hr2] at h2
  have e1 : u.take D = u := List.take_of_length_le (by omega)
  have e2 : ((c.drop I).take (N + D - I)).take (N - I) = (c.take N).drop I := by rw [List.take_take, Nat.min_eq_left (by omega), ← List.drop_take]
  have l0 : (c.take (I + D)).length = I + D := by rw [List.length_take]; omega
  have t1 : c1.take I = c.take I := by rw [h1, e2, List.append_assoc, List.take_append_of_le_length (by omega), List.take_take, Nat.min_eq_left (by omega)]
  have t2 : c1.drop (I + D) = (c.take N).drop I ++ c.drop (N + D) := by rw [h1, e2, List.append_assoc, List.drop_left' l0]
  have l2 : (c.take I ++ u ++ (c.take N).drop I).length = N + D := by simp only [List.length_append, List.length_drop, List.length_take]; omega
  rw [h2, t1, t2, List.drop_zero, List.take_take, Nat.min_self, e1, ← List.append_assoc, List.take_left' l2]
theorem ins_len {α : Type} {c u : List α} {I N D : Nat} (hu : u.length = D) (hIN : I ≤ N) (hN : N ≤ c.length) : (c.take I ++ u ++ (c.take N).drop I).length = N + D := by
  simp only [List.length_append, List.length_drop, List.length_take]; omega
theorem mem_part {α : Type} {c : List α} {u : α} {o a b N : Nat} (h : u ∈ ((c.drop o).take a).take b) (hb : o + b ≤ N) : u ∈ c.take N := by
  have h := List.mem_of_mem_take (l := (c.drop o).take b) (i := a) (by rw [List.take_take] at h ⊢; rwa [Nat.min_comm])
  rw [List.take_drop] at h
  have h := List.mem_of_mem_drop h
  exact (List.take_sublist_take_left hb).subset h
theorem lo_step {l : List Int} {k : Nat} {e x : Int} (hs : l.Pairwise (· < ·)) (h : l[k]? = some e) (he : e < x) : ∀ a ∈ l.take (k + 1), a < x := by
  intro a ha
  obtain ⟨j, hj⟩ := List.mem_iff_getElem?.1 ha
  rw [List.getElem?_take] at hj
  split at hj
  · obtain ⟨h1, h2⟩ := List.getElem?_eq_some_iff.1 hj
    obtain ⟨h3, h4⟩ := List.getElem?_eq_some_iff.1 h
    rcases Nat.lt_or_ge j k with g | g
    · have := List.pairwise_iff_getElem.1 hs j k h1 h3 g; omega
    · have : j = k := by omega
      subst this; omega
  · cases hj
theorem hi_step {l : List Int} {k : Nat} {e x : Int} (hs : l.Pairwise (· < ·)) (h : l[k]? = some e) (he : ¬ e < x) : ∀ a ∈ l.drop k, x ≤ a := by
  intro a ha
  obtain ⟨j, hj⟩ := List.mem_iff_getElem?.1 ha
  rw [List.getElem?_drop] at hj
  obtain ⟨h1, h2⟩ := List.getElem?_eq_some_iff.1 hj
  obtain ⟨h3, h4⟩ := List.getElem?_eq_some_iff.1 h
  rcases Nat.eq_zero_or_pos j with g | g
  · subst g; simp only [Nat.add_zero] at h2; omega
  · have := List.pairwise_iff_getElem.1 hs k (k + j) h3 h1 (by omega); omega
theorem bs_no {l : List Int} {i : Nat} {x : Int} (hs : l.Pairwise (· < ·)) (hlo : ∀ a ∈ l.take i, a < x) (hhi : ∀ a ∈ l.drop i, x ≤ a) (h : ∀ e, l[i]? = some e → e ≠ x) : x ∉ l := by
  intro hx
  rw [← List.take_append_drop i l, List.mem_append] at hx
  rcases hx with hx | hx
  · have := hlo x hx; omega
  · obtain ⟨j, hj⟩ := List.mem_iff_getElem?.1 hx
    rw [List.getElem?_drop] at hj
    obtain ⟨h1, h2⟩ := List.getElem?_eq_some_iff.1 hj
    have h3 : i < l.length := by omega
    have h4 := h _ (List.getElem?_eq_getElem h3)
    have h5 : l[i] ∈ l.drop i := List.mem_iff_getElem?.2 ⟨0, by rw [List.getElem?_drop]; simp [h3]⟩
    have h6 := hhi _ h5
    rcases Nat.eq_zero_or_pos j with g | g
    · subst g; exact h4 (by simpa using h2)
    · have := List.pairwise_iff_getElem.1 hs i (i + j) h3 h1 (by omega); omega
theorem wu64 {x : Int} (h0 : 0 ≤ x) (h1 : x ≤ 18446744073709551615) : IntKind.wrap .u64 x = x := by
  simp only [IntKind.wrap, IntKind.bits, IntKind.signed]
  simp only [show (2:Int)^64 = 18446744073709551616 from rfl]
  simp
  omega
section ops
variable {P : Program} {ρ : Operand → Value} {E w : World} {ss : List (List Hp)} {K : Value → World → Prop} {dst : Option Tmp} {T : TypeId} {pos : String} {after : Array Edge} {g : Option (Nat × Bool)}
/-- s[i:] of a row that is read -/
theorem o_sl_l {x y : Operand} {t e : TypeId} {zz : Value} {v : Value} {sz by_ n : Nat} {cs : List Value} {L : List Hp} {k : IntKind} {i : Int} (ht : P.underlying t = some (.slice e)) (hi : TI P e zz sz by_)
    (hx : ρ x = v) (hs : Sl L sz v n cs) (hy : ρ y = .int k i) (h0 : 0 ≤ i) (h1 : i ≤ n)
    (hK : ∀ v', Sl L sz v' (n - i.toNat) (cs.drop (i.toNat * sz)) → K v' w) : OK P ⟨dst, .slice t x (some y) none none, T, pos, after, g⟩ ρ w K := by
  have e1 : P.elem t = e := by simp [Program.elem, ht]
  obtain ⟨p, cap, rfl⟩ := hs.form
  have hs' := hs
  obtain ⟨p', cap', e2, hnc, hcm, hl, hp⟩ := hs
  cases e2
  have hrun : (Instr.sliceAt t (ρ x) ((some y).map ρ) ((none : Option Operand).map ρ) ((none : Option Operand).map ρ)).run P w = .ok (sliced p i.toNat n cap sz) w := by
    simp only [hx, hy, Option.map_some, Option.map_none]
    rw [run_sliceAt_slice _ _ _ _ _ _ (by rw [e1]; exact ht), run_slice_any _ _ _ _ _ (by rw [e1]; exact ht), bounds_l h0 h1, e1]
    simp only [Result.andThen_ok, hi.size, Int.toNat_natCast]
  refine OK.val (run_v hrun) (hK _ ?_)
  unfold sliced
  refine ⟨_, _, rfl, by omega, by omega, ?_, fun h => ?_⟩
  · rw [List.length_drop, hl, Nat.sub_mul]
  · obtain ⟨b, off, rfl, hc⟩ := hp (by omega)
    rw [if_neg (by omega)]
    refine ⟨b, off + i.toNat * sz, ?_, hc.drop⟩
    simp [add_lit]
end ops
theorem sl_dropm {α : Type} {f : α → Value} {l : List α} {L : List Hp} {v : Value} {k : Nat} (h : Sl L 1 v (l.length - k) ((l.map f).drop (k * 1))) : Sl L 1 v (l.drop k).length ((l.drop k).map f) := by
  rw [List.length_drop, List.map_drop]; simpa using h
theorem sl_partm {α : Type} {f : α → Value} {l : List α} {L : List Hp} {v : Value} {i j : Nat} (h : Sl L 1 v (j - i) (((l.map f).take (j * 1)).drop (i * 1))) (_hi : i ≤ j) (hj : j ≤ l.length) : Sl L 1 v ((l.take j).drop i).length (((l.take j).drop i).map f) := by
  rw [List.length_drop, List.length_take, Nat.min_eq_left hj, List.map_drop, List.map_take]; simpa using h
end Go.Q
namespace Go.Q
theorem drop_of {α : Type} {l : List α} {k : Nat} {x : α} (h : l[k]? = some x) : l.drop k = x :: l.drop (k + 1) := by
  obtain ⟨hlt, rfl⟩ := List.getElem?_eq_some_iff.1 h
  exact List.drop_eq_getElem_cons hlt
def sumS (s : Int) : List Int → Int
  | [] => s
  | n :: l => if 9223372036854775807 - s < n then 9223372036854775807 else sumS (s + max n 0) l
def fitsS (n : Int) (m : Nat) : Bool := decide (0 ≤ n) && (decide ((m : Int) = 8) || decide (Int.fdiv n (2 ^ (min (8 * (m : Int)).toNat 64)) = 0))
/-- a number's j lowest bytes, the highest first -/
def beFrom (n : Int) : Nat → List UInt8
  | 0 => []
  | j + 1 => by8 (n / 2 ^ (8 * j)) :: beFrom n j
theorem beFrom_pred {n : Int} {j : Nat} (h : 0 < j) : beFrom n j = by8 (n / 2 ^ (8 * (j - 1))) :: beFrom n (j - 1) := by
  obtain ⟨j, rfl⟩ : ∃ i, j = i + 1 := ⟨j - 1, by omega⟩
  rfl
theorem by8_shift (n : Int) {j : Nat} (h : 1 ≤ j) (h8 : j ≤ 8) : by8 (Int.fdiv n (2 ^ (min (8 * ((j : Int) - 1)).toNat 64))) = by8 (n / 2 ^ (8 * (j - 1))) := by
  have e : min (8 * ((j : Int) - 1)).toNat 64 = 8 * (j - 1) := by omega
  rw [e, Int.fdiv_eq_ediv_of_nonneg _ (by exact Int.le_of_lt (Int.pow_pos (by omega)))]
theorem beFrom_length (n : Int) (j : Nat) : (beFrom n j).length = j := by induction j <;> simp [beFrom, *]
def putS (m : Nat) (l : List Int) : List UInt8 := if 1 ≤ m ∧ m ≤ 8 ∧ ∀ x ∈ l, fitsS x m = true then l.flatMap (beFrom · m) else []
theorem putS_no {m : Nat} {l : List Int} {x : Int} (h : x ∈ l) (hf : fitsS x m = false) : putS m l = [] := by
  rw [putS, if_neg]
  rintro ⟨_, _, h3⟩
  rw [h3 x h] at hf; cases hf
theorem putS_yes {m : Nat} {l : List Int} (h1 : 1 ≤ m) (h8 : m ≤ 8) (h : ∀ x ∈ l, fitsS x m = true) : putS m l = l.flatMap (beFrom · m) := by
  rw [putS, if_pos ⟨h1, h8, h⟩]
/-- bytes as a number, the highest first -/
def beVal (l : List UInt8) : Int := l.foldl (fun n b => n * 256 + b.toNat) 0
theorem beVal_snoc (l : List UInt8) (b : UInt8) : beVal (l ++ [b]) = beVal l * 256 + b.toNat := by simp [beVal]
theorem beVal_nonneg (l : List UInt8) : 0 ≤ beVal l := by
  have : ∀ (l : List UInt8) (n : Int), 0 ≤ n → 0 ≤ l.foldl (fun n b => n * 256 + (b.toNat : Int)) n := by
    intro l
    induction l with
    | nil => intro n h; exact h
    | cons b l ih => intro n h; exact ih _ (show 0 ≤ n * 256 + (b.toNat : Int) by omega)
  exact this l 0 (by omega)
theorem foldl_bound : ∀ (l : List UInt8) (n : Int), 0 ≤ n → l.foldl (fun n b => n * 256 + (b.toNat : Int)) n < (n + 1) * 256 ^ l.length := by
  intro l
  induction l with
  | nil => intro n _; simp; omega
  | cons b l ih =>
    intro n h
    have hb := b.toNat_lt
    refine Int.lt_of_lt_of_le (ih (n * 256 + b.toNat) (by omega)) ?_
    have h1 : (n * 256 + (b.toNat : Int) + 1) ≤ (n + 1) * 256 := by omega
    have h2 : (0 : Int) ≤ 256 ^ l.length := Int.le_of_lt (Int.pow_pos (by omega))
    have h3 := Int.mul_le_mul_of_nonneg_right h1 h2
    rw [List.length_cons, Int.pow_succ, ← Int.mul_assoc, Int.mul_right_comm]
    exact h3
theorem beVal_lt_pow (l : List UInt8) : beVal l < 256 ^ l.length := by
  have := foldl_bound l 0 (by omega); simpa [beVal] using this
theorem pow_mono {a b : Nat} (h : a ≤ b) : (256 : Int) ^ a ≤ 256 ^ b := by
  have h2 := Int.ofNat_le.2 (Nat.pow_le_pow_right (n := 256) (by omega) h)
  rw [Int.natCast_pow, Int.natCast_pow] at h2
  exact h2
theorem beVal_lt {s : List UInt8} {i m : Nat} (h : i < m) (h8 : m ≤ 8) (hs : m ≤ s.length) (hc : m ≤ 7 ∨ ∀ c, s[0]? = some c → c.toNat ≤ 127) : beVal (s.take i) < 36028797018963968 := by
  have hl : (s.take i).length = i := by rw [List.length_take]; omega
  rcases hc with hc | hc
  · have h1 := beVal_lt_pow (s.take i)
    rw [hl] at h1
    have h2 := pow_mono (show i ≤ 6 by omega)
    have : (256 : Int) ^ 6 = 281474976710656 := by decide
    omega
  · cases i with
    | zero => simp [beVal]
    | succ i =>
      cases s with
      | nil => simp at hs; omega
      | cons c s =>
        have hcc := hc c rfl
        rw [List.take_succ_cons]
        have h1 := foldl_bound (s.take i) c.toNat (by omega)
        have hl' : (s.take i).length = i := by simpa using hl
        rw [hl'] at h1
        have h2 := pow_mono (show i ≤ 6 by omega)
        have h3 : (256 : Int) ^ 6 = 281474976710656 := by decide
        have h4 : ((c.toNat : Int) + 1) * 256 ^ i ≤ 128 * 256 ^ i := Int.mul_le_mul_of_nonneg_right (by omega) (Int.le_of_lt (Int.pow_pos (by omega)))
        have h5 : beVal (c :: s.take i) = (s.take i).foldl (fun n b => n * 256 + (b.toNat : Int)) c.toNat := by simp [beVal]
        rw [h5]
        omega
theorem or8 {x : Int} (h0 : 0 ≤ x) (h1 : x < 36028797018963968) (b : UInt8) : IntKind.wrap .i64 ((BitVec.ofInt 64 (x * 256) ||| BitVec.ofInt 64 (b.toNat : Int)).toNat : Int) = x * 256 + b.toNat := by
  obtain ⟨n, rfl⟩ := Int.eq_ofNat_of_zero_le h0
  have hb := b.toNat_lt
  have e1 : (BitVec.ofInt 64 ((n : Int) * 256)).toNat = n * 256 := by
    rw [show ((n : Int) * 256) = ((n * 256 : Nat) : Int) by omega, BitVec.ofInt_natCast, BitVec.toNat_ofNat]
    exact Nat.mod_eq_of_lt (by omega)
  have e2 : (BitVec.ofInt 64 (b.toNat : Int)).toNat = b.toNat := by
    rw [BitVec.ofInt_natCast, BitVec.toNat_ofNat]
    exact Nat.mod_eq_of_lt (by omega)
  have e3 : n * 256 ||| b.toNat = n * 256 + b.toNat := by
    have := Nat.shiftLeft_add_eq_or_of_lt (i := 8) (b := b.toNat) (by omega) n
    rw [Nat.shiftLeft_eq, show 2 ^ 8 = 256 from rfl] at this
    omega
  rw [BitVec.toNat_or, e1, e2, e3]
  rw [w64 (by omega) (by omega)]
  omega
def takeS (s : List UInt8) (m : Nat) : Int × List UInt8 × Bool :=
  if 1 ≤ m ∧ m ≤ 8 ∧ m ≤ s.length ∧ (m ≤ 7 ∨ ∀ c, s[0]? = some c → c.toNat ≤ 127) then (beVal (s.take m), s.drop m, true) else (0, s, false)
theorem takeS_yes {s : List UInt8} {m : Nat} (h1 : 1 ≤ m) (h2 : m ≤ 8) (h3 : m ≤ s.length) (h4 : m ≤ 7 ∨ ∀ c, s[0]? = some c → c.toNat ≤ 127) : takeS s m = (beVal (s.take m), s.drop m, true) := by
  rw [takeS, if_pos ⟨h1, h2, h3, h4⟩]
theorem takeS_no {s : List UInt8} {m : Nat} (h : (m < 1 ∨ 8 < m) ∨ s.length < m ∨ (m = 8 ∧ ∃ c, s[0]? = some c ∧ 127 < c.toNat)) : takeS s m = (0, s, false) := by
  rw [takeS, if_neg]
  rintro ⟨h1, h2, h3, h4⟩
  rcases h with h | h | ⟨h, c, hc, hh⟩
  · omega
  · omega
  · rcases h4 with h4 | h4
    · omega
    · have := h4 c hc; omega
end Go.Q
namespace Go.Q
theorem Has.all3 {E w : World} {s t u : List Hp} {ss : List (List Hp)} (H : Has E w (s :: t :: u :: ss)) : Has E w [s, t, u, ss.flatten] := by unfold Has at *; simpa using H
theorem Has.of_all3 {E w : World} {s t u : List Hp} {ss : List (List Hp)} (H : Has E w [s, t, u, ss.flatten]) : Has E w (s :: t :: u :: ss) := by unfold Has at *; simpa using H
theorem Has.all4 {E w : World} {s t u x : List Hp} {ss : List (List Hp)} (H : Has E w (s :: t :: u :: x :: ss)) : Has E w [s, t, u, x, ss.flatten] := by unfold Has at *; simpa using H
theorem Has.of_all4 {E w : World} {s t u x : List Hp} {ss : List (List Hp)} (H : Has E w [s, t, u, x, ss.flatten]) : Has E w (s :: t :: u :: x :: ss) := by unfold Has at *; simpa using H
theorem Sl.one {L : List Hp} {sz n : Nat} {v : Value} {cs : List Value} (h : Sl L sz v n cs) : v.oneCell' = true := by obtain ⟨p, c, rfl⟩ := h.form; rfl
theorem Own.one {e : TypeId} {sz n : Nat} {v : Value} {cs : List Value} {hs : List Hp} (h : Own e sz v n cs hs) : v.oneCell' = true := h.sl.one
theorem same_step {a b : List Int} {k : Nat} {x y : Int} (he : ∀ j, j < k → a[j]? = b[j]?) (h1 : a[k]? = some x) (h2 : b[k]? = some y) (e : x = y) : ∀ j, j < k + 1 → a[j]? = b[j]? := fun j hj => by
  rcases Nat.lt_or_ge j k with g | g
  · exact he j g
  · have : j = k := by omega
    subst this; rw [h1, h2, e]
theorem mem_step_in {now cur l : List Int} {k : Nat} {x : Int} (hm : ∀ a, a ∈ cur ↔ a ∈ now ∨ a ∈ l.take k) (hx : l[k]? = some x) (h : x ∈ cur) : ∀ a, a ∈ cur ↔ a ∈ now ∨ a ∈ l.take (k + 1) := by
  intro a; rw [take_succ_of hx, List.mem_append, List.mem_singleton, ← or_assoc, ← hm a]
  exact ⟨.inl, fun g => g.elim id fun e => e ▸ h⟩
theorem mem_step_add {now cur l : List Int} {k p : Nat} {x : Int} (hm : ∀ a, a ∈ cur ↔ a ∈ now ∨ a ∈ l.take k) (hx : l[k]? = some x) : ∀ a, a ∈ cur.take p ++ [x] ++ cur.drop p ↔ a ∈ now ∨ a ∈ l.take (k + 1) := by
  intro a; rw [take_succ_of hx, List.mem_append, List.mem_append, List.mem_append, List.mem_singleton, ← or_assoc, ← hm a]
  rw [show (a ∈ cur) ↔ (a ∈ cur.take p ∨ a ∈ cur.drop p) from by rw [← List.mem_append, List.take_append_drop]]
  constructor
  · rintro ((h | h) | h)
    · exact .inl (.inl h)
    · exact .inr h
    · exact .inl (.inr h)
  · rintro ((h | h) | h)
    · exact .inl (.inl h)
    · exact .inr h
    · exact .inl (.inr h)
theorem ins_sorted {cur : List Int} {p : Nat} {x : Int} (hs : cur.Pairwise (· < ·)) (hlo : ∀ a ∈ cur.take p, a < x) (hhi : ∀ a ∈ cur.drop p, x ≤ a) (h : x ∉ cur) : (cur.take p ++ [x] ++ cur.drop p).Pairwise (· < ·) := by
  have hs' := hs
  rw [← List.take_append_drop p cur, List.pairwise_append] at hs'
  obtain ⟨h1, h2, h3⟩ := hs'
  have h4 : ∀ b ∈ cur.drop p, x < b := fun b hb => by
    have := hhi b hb
    have : x ≠ b := fun e => h (e ▸ List.mem_of_mem_drop hb)
    omega
  rw [List.append_assoc, List.pairwise_append]
  refine ⟨h1, List.pairwise_cons.2 ⟨h4, h2⟩, fun a ha b hb => ?_⟩
  rcases List.mem_cons.1 hb with rfl | hb
  · exact hlo a ha
  · exact h3 a ha b hb
theorem sorted_eq {a b : List Int} (ha : a.Pairwise (· < ·)) (hb : b.Pairwise (· < ·)) (h : ∀ x, x ∈ a ↔ x ∈ b) : a = b := by
  induction a generalizing b with
  | nil => cases b with
    | nil => rfl
    | cons y t => exact absurd ((h y).2 (List.mem_cons_self ..)) (by simp)
  | cons x s ih => cases b with
    | nil => exact absurd ((h x).1 (List.mem_cons_self ..)) (by simp)
    | cons y t =>
      have ha' := List.pairwise_cons.1 ha
      have hb' := List.pairwise_cons.1 hb
      have e : x = y := by
        rcases List.mem_cons.1 ((h x).1 (List.mem_cons_self ..)) with e | e
        · exact e
        · rcases List.mem_cons.1 ((h y).2 (List.mem_cons_self ..)) with e' | e'
          · exact e'.symm
          · have := hb'.1 x e; have := ha'.1 y e'; omega
      subst e
      congr 1
      refine ih ha'.2 hb'.2 fun z => ?_
      constructor
      · intro hz
        rcases List.mem_cons.1 ((h z).1 (List.mem_cons_of_mem _ hz)) with e | e
        · have := ha'.1 z hz; omega
        · exact e
      · intro hz
        rcases List.mem_cons.1 ((h z).2 (List.mem_cons_of_mem _ hz)) with e | e
        · have := hb'.1 z hz; omega
        · exact e
end Go.Q
namespace Go.Q
theorem fold_max_mem (l : List Int) : ∀ a : Int, l.foldl max a = a ∨ l.foldl max a ∈ l := by
  induction l with
  | nil => intro a; exact .inl rfl
  | cons x t ih =>
    intro a
    rw [List.foldl_cons]
    rcases ih (max a x) with h | h
    · rw [h]
      rcases Int.le_total a x with g | g
      · right; rw [Int.max_eq_right g]; exact List.mem_cons_self ..
      · left; exact Int.max_eq_left g
    · exact .inr (List.mem_cons_of_mem _ h)
theorem fold_min_mem (l : List Int) : ∀ a : Int, l.foldl min a = a ∨ l.foldl min a ∈ l := by
  induction l with
  | nil => intro a; exact .inl rfl
  | cons x t ih =>
    intro a
    rw [List.foldl_cons]
    rcases ih (min a x) with h | h
    · rw [h]
      rcases Int.le_total a x with g | g
      · left; exact Int.min_eq_left g
      · right; rw [Int.min_eq_right g]; exact List.mem_cons_self ..
    · exact .inr (List.mem_cons_of_mem _ h)
theorem fold_max_le (l : List Int) : ∀ a : Int, a ≤ l.foldl max a ∧ ∀ x ∈ l, x ≤ l.foldl max a := by
  induction l with
  | nil => intro a; exact ⟨Int.le_refl _, fun x hx => by cases hx⟩
  | cons y t ih =>
    intro a
    rw [List.foldl_cons]
    have := ih (max a y)
    refine ⟨by omega, fun x hx => ?_⟩
    rcases List.mem_cons.1 hx with e | e
    · subst e; omega
    · exact this.2 x e
theorem fold_min_le (l : List Int) : ∀ a : Int, l.foldl min a ≤ a ∧ ∀ x ∈ l, l.foldl min a ≤ x := by
  induction l with
  | nil => intro a; exact ⟨Int.le_refl _, fun x hx => by cases hx⟩
  | cons y t ih =>
    intro a
    rw [List.foldl_cons]
    have := ih (min a y)
    refine ⟨by omega, fun x hx => ?_⟩
    rcases List.mem_cons.1 hx with e | e
    · subst e; omega
    · exact this.2 x e
theorem seen_step {l : List Int} {k : Nat} {h a x : Int} {b b' : Bool} (H : h = a ∨ h ∈ l.take k → b = true) (hx : l[k]? = some x) (g : b = true ∨ h = x → b' = true) : h = a ∨ h ∈ l.take (k + 1) → b' = true := by
  rw [take_succ_of hx, List.mem_append, List.mem_singleton]
  rintro (h1 | h1 | h1)
  · exact g (.inl (H (.inl h1)))
  · exact g (.inl (H (.inr h1)))
  · exact g (.inr h1)
end Go.Q
namespace Go.Q
theorem sum_skip {l : List Int} {k : Nat} {s x : Int} (h : sumS 0 l = sumS s (l.drop k)) (hx : l[k]? = some x) (h0 : ¬ 0 < x) (hs : s ≤ 9223372036854775807) : sumS 0 l = sumS s (l.drop (k + 1)) := by
  rw [h, drop_of hx, sumS, if_neg (by omega), Int.max_eq_right (by omega), Int.add_zero]
theorem sum_add {l : List Int} {k : Nat} {s x : Int} (h : sumS 0 l = sumS s (l.drop k)) (hx : l[k]? = some x) (h0 : 0 < x) (hs : ¬ 9223372036854775807 - s < x) : sumS 0 l = sumS (s + x) (l.drop (k + 1)) := by
  rw [h, drop_of hx, sumS, if_neg (by omega), Int.max_eq_left (by omega)]
theorem sum_over {l : List Int} {k : Nat} {s x : Int} (h : sumS 0 l = sumS s (l.drop k)) (hx : l[k]? = some x) (hs : 9223372036854775807 - s < x) : sumS 0 l = 9223372036854775807 := by
  rw [h, drop_of hx, sumS, if_pos (by omega)]
theorem sum_end {l : List Int} {k : Nat} {s : Int} (h : sumS 0 l = sumS s (l.drop k)) (hk : l.length ≤ k) : sumS 0 l = s := by
  rw [h, List.drop_of_length_le hk]; rfl
end Go.Q
namespace Go.Q
theorem o_not2 {P : Program} {ρ : Operand → Value} {w : World} {K : Value → World → Prop} {dst : Option Tmp} {T : TypeId} {pos : String} {after : Array Edge} {g : Option (Nat × Bool)} {t : TypeId} {x : Operand} {b b' : Bool} (hx : ρ x = .bool b) (hb : (!b) = b') (h : K (.bool b') w) :
    OK P ⟨dst, .unOp .not t x, T, pos, after, g⟩ ρ w K := by subst hb; exact o_not hx h
end Go.Q
namespace Go.Q
theorem Has.below {w w' : World} (H : Has w w' [[Hp.of w]]) : RowKit.Below w.heap.size w w' := by
  have hs : ∀ b o, w.heap[b]? = some o → w'.heap[b]? = some o := Has0.sub H (Hp.of w) (by simp)
  have hb : ∀ k, k < w.heap.size → w'.heap[k]? = w.heap[k]? := fun k hk => by
    rw [hs k w.heap[k] (Array.getElem?_eq_getElem hk), Array.getElem?_eq_getElem hk]
  refine ⟨H.os, H.tape, H.output, ?_, hb⟩
  rcases Nat.eq_zero_or_pos w.heap.size with h | h
  · omega
  · have h1 := hb (w.heap.size - 1) (by omega)
    rw [Array.getElem?_eq_getElem (show w.heap.size - 1 < w.heap.size by omega)] at h1
    have h2 := (Array.getElem?_eq_some_iff.1 h1).1
    omega
/-- cells that are read one by one, as a row -/
theorem cells_row {w : World} {x : Addr} {vs : List Value} (h0 : 0 < vs.length) (h : ∀ i v, vs[i]? = some v → w.cell? (x.add i) = some v) : ∃ b off, x = ⟨b, off, none⟩ ∧ CellsAt [Hp.of w] b off vs := by
  obtain ⟨b, off, spot⟩ := x
  have hc := h 0 vs[0] (List.getElem?_eq_getElem h0)
  simp only [Addr.add, if_true, World.cell?] at hc
  cases hb : w.heap[b]? with
  | none => rw [hb] at hc; cases hc
  | some o =>
    cases o with
    | cells c T f =>
      rw [hb] at hc
      simp only at hc
      cases spot with
      | some s => simp at hc
      | none =>
        refine ⟨b, off, rfl, Hp.of w, List.mem_singleton.2 rfl, c, T, f, hb, fun j v hv => ?_⟩
        have := h j v hv
        rw [add_lit] at this
        simpa [World.cell?, hb] using this
    | _ => rw [hb] at hc; simp at hc
theorem ints_row {w : World} {a : Option Addr} {len cap : Nat} {zs : List Int}
    (h : (a = none ∧ len = 0 ∧ cap = 0 ∧ zs = []) ∨ ∃ x, a = some x ∧ len ≤ cap ∧ cap ≤ maxLen ∧ zs.length = cap ∧ (∀ i, i < zs.length → w.cell? (x.add i) = some (.int .i64 (zs.getD i 0))) ∧ ∀ n ∈ zs, (Lit.int .i64 n).wf = true) :
    ∃ l : List Int, l.length = len ∧ Ints [Hp.of w] (.slice a len cap) l ∧ ∀ n ∈ l, -9223372036854775808 ≤ n ∧ n ≤ 9223372036854775807 := by
  rcases h with ⟨rfl, rfl, rfl, rfl⟩ | ⟨x, rfl, h1, h2, h3, h4, h5⟩
  · exact ⟨[], rfl, sl_nil 1, fun n hn => by cases hn⟩
  · have hl : (zs.take len).length = len := by rw [List.length_take]; omega
    refine ⟨zs.take len, hl, ?_, fun n hn => ?_⟩
    · unfold Ints
      rw [hl]
      refine ⟨some x, cap, rfl, h1, by simpa [maxLen] using h2, by simp; omega, fun h0 => ?_⟩
      obtain ⟨b, off, rfl, hc⟩ := cells_row (w := w) (x := x) (vs := (zs.take len).map iV) (by simp; omega) (fun i v hv => by
        rw [List.getElem?_map, Option.map_eq_some_iff] at hv
        obtain ⟨z, hz, rfl⟩ := hv
        rw [List.getElem?_take] at hz
        split at hz
        · rw [h4 i (by omega), List.getD_eq_getElem?_getD, hz]; rfl
        · cases hz)
      exact ⟨b, off, rfl, hc⟩
    · have := h5 n (List.mem_of_mem_take hn)
      simp only [Lit.wf, IntKind.min, IntKind.max, IntKind.signed, IntKind.bits, Bool.and_eq_true, decide_eq_true_eq, if_true] at this
      omega
end Go.Q
namespace Go.Q
theorem wf_i64 {x : Int} (h : (Lit.int .i64 x).wf = true) : -9223372036854775808 ≤ x ∧ x ≤ 9223372036854775807 := by
  simp only [Lit.wf, IntKind.min, IntKind.max, IntKind.signed, IntKind.bits, Bool.and_eq_true, decide_eq_true_eq, if_true] at h
  omega
theorem wf_u8 {x : Int} (h : (Lit.int .u8 x).wf = true) : 0 ≤ x ∧ x ≤ 255 := by
  simp [Lit.wf, IntKind.min, IntKind.max, IntKind.signed, IntKind.bits] at h
  omega
end Go.Q
namespace Go.Q
open Go.Proofs
theorem ti1 : TI Tryz.prog 1 .nilFunc 1 8 := TI.mk (by kernel_rfl)
theorem ti2 : TI Tryz.prog 2 (.int .i64 0) 1 8 := TI.mk (by kernel_rfl)
theorem ti3 : TI Tryz.prog 3 (.int .i64 0) 1 8 := TI.mk (by kernel_rfl)
theorem ti4 : TI Tryz.prog 4 (.bool false) 1 1 := TI.mk (by kernel_rfl)
theorem ti5 : TI Tryz.prog 5 (.int .u8 0) 1 1 := TI.mk (by kernel_rfl)
theorem ti6 : TI Tryz.prog 6 (.int .u8 0) 1 1 := TI.mk (by kernel_rfl)
theorem ti7 : TI Tryz.prog 7 (.agg #[(.int .i64 0), (.int .i64 0), (.bool false), (.int .u8 0)]) 4 24 := TI.mk (by kernel_rfl)
theorem ti8 : TI Tryz.prog 8 (.agg #[(.int .i64 0), (.int .i64 0), (.bool false), (.int .u8 0)]) 4 24 := TI.mk (by kernel_rfl)
theorem ti9 : TI Tryz.prog 9 (.string ⟨#[]⟩) 1 16 := TI.mk (by kernel_rfl)
theorem ti10 : TI Tryz.prog 10 (.string ⟨#[]⟩) 1 16 := TI.mk (by kernel_rfl)
theorem ti11 : TI Tryz.prog 11 (.string ⟨#[]⟩) 1 16 := TI.mk (by kernel_rfl)
theorem ti12 : TI Tryz.prog 12 (.int .u64 0) 1 8 := TI.mk (by kernel_rfl)
theorem ti13 : TI Tryz.prog 13 (.agg #[(.string ⟨#[]⟩), (.int .u64 0)]) 2 24 := TI.mk (by kernel_rfl)
theorem ti14 : TI Tryz.prog 14 (.agg #[(.string ⟨#[]⟩), (.int .u64 0)]) 2 24 := TI.mk (by kernel_rfl)
theorem ti15 : TI Tryz.prog 15 (.pointer none) 1 8 := TI.mk (by kernel_rfl)
theorem ti16 : TI Tryz.prog 16 (.pointer none) 1 8 := TI.mk (by kernel_rfl)
theorem ti17 : TI Tryz.prog 17 (.pointer none) 1 8 := TI.mk (by kernel_rfl)
theorem ti18 : TI Tryz.prog 18 (.agg #[(.pointer none)]) 1 8 := TI.mk (by kernel_rfl)
theorem ti19 : TI Tryz.prog 19 (.agg #[(.pointer none)]) 1 8 := TI.mk (by kernel_rfl)
theorem ti20 : TI Tryz.prog 20 .nilIface 1 16 := TI.mk (by kernel_rfl)
theorem ti21 : TI Tryz.prog 21 (.int .i32 0) 1 4 := TI.mk (by kernel_rfl)
theorem ti22 : TI Tryz.prog 22 (.agg #[(.int .i64 0), (.int .i64 0), (.int .i64 0), (.int .i64 0), (.int .i64 0)]) 5 40 := TI.mk (by kernel_rfl)
theorem ti23 : TI Tryz.prog 23 (.agg #[(.int .i64 0), (.int .i64 0), (.int .i64 0), (.int .i64 0), (.int .i64 0)]) 5 40 := TI.mk (by kernel_rfl)
theorem ti24 : TI Tryz.prog 24 .nilFunc 1 8 := TI.mk (by kernel_rfl)
theorem ti27 : TI Tryz.prog 27 (.agg #[(.int .i64 0), (.int .i64 0), (.int .i64 0), (.int .i64 0), (.int .i64 0)]) 5 40 := TI.mk (by kernel_rfl)
theorem ti34 : TI Tryz.prog 34 (.pointer none) 1 8 := TI.mk (by kernel_rfl)
theorem ti36 : TI Tryz.prog 36 (.int .u64 0) 1 8 := TI.mk (by kernel_rfl)
theorem ti37 : TI Tryz.prog 37 (.int .i64 0) 1 8 := TI.mk (by kernel_rfl)
theorem ti46 : TI Tryz.prog 46 (.slice none 0 0) 1 24 := TI.mk (by kernel_rfl)
theorem ti49 : TI Tryz.prog 49 (.agg #[(.int .i64 0), (.int .i64 0)]) 2 16 := TI.mk (by kernel_rfl)
theorem ti50 : TI Tryz.prog 50 (.agg #[(.int .i64 0), (.int .i64 0)]) 2 16 := TI.mk (by kernel_rfl)
theorem ti51 : TI Tryz.prog 51 (.pointer none) 1 8 := TI.mk (by kernel_rfl)
theorem ti55 : TI Tryz.prog 55 .nilFunc 1 8 := TI.mk (by kernel_rfl)
theorem ti58 : TI Tryz.prog 58 (.slice none 0 0) 1 24 := TI.mk (by kernel_rfl)
theorem ti59 : TI Tryz.prog 59 .nilFunc 1 8 := TI.mk (by kernel_rfl)
theorem ti67 : TI Tryz.prog 67 (.pointer none) 1 8 := TI.mk (by kernel_rfl)
theorem ti68 : TI Tryz.prog 68 (.slice none 0 0) 1 24 := TI.mk (by kernel_rfl)
theorem ti76 : TI Tryz.prog 76 (.pointer none) 1 8 := TI.mk (by kernel_rfl)
theorem ti77 : TI Tryz.prog 77 (.agg #[(.bool false), (.bool false), (.int .i64 0), (.int .i64 0)]) 4 24 := TI.mk (by kernel_rfl)
theorem ti78 : TI Tryz.prog 78 (.agg #[(.bool false), (.bool false), (.int .i64 0), (.int .i64 0)]) 4 24 := TI.mk (by kernel_rfl)
theorem ti79 : TI Tryz.prog 79 (.slice none 0 0) 1 24 := TI.mk (by kernel_rfl)
theorem ti81 : TI Tryz.prog 81 .nilFunc 1 8 := TI.mk (by kernel_rfl)
theorem ti82 : TI Tryz.prog 82 (.map none) 1 8 := TI.mk (by kernel_rfl)
theorem ti83 : TI Tryz.prog 83 (.agg #[(.pointer none), (.slice none 0 0), (.map none)]) 3 40 := TI.mk (by kernel_rfl)
theorem ti84 : TI Tryz.prog 84 (.agg #[(.pointer none), (.slice none 0 0), (.map none)]) 3 40 := TI.mk (by kernel_rfl)
theorem ti87 : TI Tryz.prog 87 (.slice none 0 0) 1 24 := TI.mk (by kernel_rfl)
theorem ti92 : TI Tryz.prog 92 (.agg #[(.int .i64 0), (.int .i64 0), (.int .i64 0), (.int .i64 0), (.int .i64 0), (.int .i64 0), (.int .i64 0)]) 7 56 := TI.mk (by kernel_rfl)
theorem ti93 : TI Tryz.prog 93 (.agg #[(.int .i64 0), (.int .i64 0), (.int .i64 0), (.int .i64 0), (.int .i64 0), (.int .i64 0), (.int .i64 0)]) 7 56 := TI.mk (by kernel_rfl)
theorem ti94 : TI Tryz.prog 94 (.agg #[(.int .i64 0), (.int .i64 0), (.int .i64 0), (.int .i64 0), (.int .i64 0), (.int .i64 0), (.int .i64 0), (.pointer none)]) 8 64 := TI.mk (by kernel_rfl)
theorem ti95 : TI Tryz.prog 95 (.agg #[(.int .i64 0), (.int .i64 0), (.int .i64 0), (.int .i64 0), (.int .i64 0), (.int .i64 0), (.int .i64 0), (.pointer none)]) 8 64 := TI.mk (by kernel_rfl)
theorem ti97 : TI Tryz.prog 97 .nilFunc 1 8 := TI.mk (by kernel_rfl)
theorem ti100 : TI Tryz.prog 100 (.int .u32 0) 1 4 := TI.mk (by kernel_rfl)
theorem ti107 : TI Tryz.prog 107 (.pointer none) 1 8 := TI.mk (by kernel_rfl)
theorem ti108 : TI Tryz.prog 108 (.agg #[(.pointer none), (.slice none 0 0)]) 2 32 := TI.mk (by kernel_rfl)
theorem ti109 : TI Tryz.prog 109 (.agg #[(.pointer none), (.slice none 0 0)]) 2 32 := TI.mk (by kernel_rfl)
theorem ti110 : TI Tryz.prog 110 .nilIface 1 16 := TI.mk (by kernel_rfl)
theorem ti111 : TI Tryz.prog 111 .nilIface 1 16 := TI.mk (by kernel_rfl)
theorem ti115 : TI Tryz.prog 115 (.agg #[(.bool false), (.bool false), (.bool false), (.bool false), (.bool false), (.bool false), (.bool false), (.bool false), (.bool false), (.bool false), (.bool false), (.bool false), (.bool false), (.bool false), (.bool false), (.bool false), (.bool false), (.bool false), (.bool false), (.bool false), (.bool false), (.bool false), (.bool false), (.bool false), (.bool false), (.bool false), (.bool false), (.bool false), (.bool false), (.bool false), (.bool false), (.bool false), (.bool false), (.bool false), (.bool false), (.bool false), (.bool false), (.bool false), (.bool false), (.bool false), (.bool false), (.bool false), (.bool false), (.bool false), (.bool false), (.bool false), (.bool false), (.bool false), (.bool false), (.bool false), (.bool false), (.bool false), (.bool false), (.bool false), (.bool false), (.bool false), (.bool false), (.bool false), (.bool false), (.bool false), (.bool false), (.bool false), (.bool false), (.bool false), (.bool false), (.bool false), (.bool false), (.bool false), (.bool false), (.bool false), (.bool false), (.bool false), (.bool false), (.bool false), (.bool false), (.bool false), (.bool false), (.bool false), (.bool false), (.bool false), (.bool false), (.bool false), (.bool false), (.bool false), (.bool false), (.bool false), (.bool false), (.bool false), (.bool false), (.bool false), (.bool false), (.bool false), (.bool false), (.bool false), (.bool false), (.bool false), (.bool false), (.bool false), (.bool false), (.bool false), (.bool false), (.bool false), (.bool false), (.bool false), (.bool false), (.bool false), (.bool false), (.bool false), (.bool false), (.bool false), (.bool false), (.bool false), (.bool false), (.bool false), (.bool false), (.bool false), (.bool false), (.bool false), (.bool false), (.bool false), (.bool false), (.bool false), (.bool false), (.bool false), (.bool false), (.bool false), (.bool false), (.bool false), (.bool false), (.bool false), (.bool false), (.bool false), (.bool false), (.bool false), (.bool false), (.bool false), (.bool false), (.bool false), (.bool false), (.bool false), (.bool false), (.bool false), (.bool false), (.bool false), (.bool false), (.bool false), (.bool false), (.bool false), (.bool false), (.bool false), (.bool false), (.bool false), (.bool false), (.bool false), (.bool false), (.bool false), (.bool false), (.bool false), (.bool false), (.bool false), (.bool false), (.bool false), (.bool false), (.bool false), (.bool false), (.bool false), (.bool false), (.bool false), (.bool false), (.bool false), (.bool false), (.bool false), (.bool false), (.bool false), (.bool false), (.bool false), (.bool false), (.bool false), (.bool false), (.bool false), (.bool false), (.bool false), (.bool false), (.bool false), (.bool false), (.bool false), (.bool false), (.bool false), (.bool false), (.bool false), (.bool false), (.bool false), (.bool false), (.bool false), (.bool false), (.bool false), (.bool false), (.bool false), (.bool false), (.bool false), (.bool false), (.bool false), (.bool false), (.bool false), (.bool false), (.bool false), (.bool false), (.bool false), (.bool false), (.bool false), (.bool false), (.bool false), (.bool false), (.bool false), (.bool false), (.bool false), (.bool false), (.bool false), (.bool false), (.bool false), (.bool false), (.bool false), (.bool false), (.bool false), (.bool false), (.bool false), (.bool false), (.bool false), (.bool false), (.bool false), (.bool false), (.bool false), (.bool false), (.bool false), (.bool false), (.bool false), (.bool false), (.bool false), (.bool false), (.bool false), (.bool false), (.bool false), (.bool false), (.bool false), (.bool false), (.bool false), (.bool false), (.bool false), (.bool false), (.bool false), (.bool false), (.bool false), (.bool false), (.bool false), (.bool false), (.bool false)]) 256 256 := TI.mk (by kernel_rfl)
theorem ti116 : TI Tryz.prog 116 (.agg #[(.bool false), (.bool false), (.bool false), (.bool false), (.bool false), (.bool false), (.bool false), (.bool false), (.bool false), (.bool false), (.bool false), (.bool false), (.bool false), (.bool false), (.bool false), (.bool false), (.bool false), (.bool false), (.bool false), (.bool false), (.bool false), (.bool false), (.bool false), (.bool false), (.bool false), (.bool false), (.bool false), (.bool false), (.bool false), (.bool false), (.bool false), (.bool false), (.bool false), (.bool false), (.bool false), (.bool false), (.bool false), (.bool false), (.bool false), (.bool false), (.bool false), (.bool false), (.bool false), (.bool false), (.bool false), (.bool false), (.bool false), (.bool false), (.bool false), (.bool false), (.bool false), (.bool false), (.bool false), (.bool false), (.bool false), (.bool false), (.bool false), (.bool false), (.bool false), (.bool false), (.bool false), (.bool false), (.bool false), (.bool false), (.bool false), (.bool false), (.bool false), (.bool false), (.bool false), (.bool false), (.bool false), (.bool false), (.bool false), (.bool false), (.bool false), (.bool false), (.bool false), (.bool false), (.bool false), (.bool false), (.bool false), (.bool false), (.bool false), (.bool false), (.bool false), (.bool false), (.bool false), (.bool false), (.bool false), (.bool false), (.bool false), (.bool false), (.bool false), (.bool false), (.bool false), (.bool false), (.bool false), (.bool false), (.bool false), (.bool false), (.bool false), (.bool false), (.bool false), (.bool false), (.bool false), (.bool false), (.bool false), (.bool false), (.bool false), (.bool false), (.bool false), (.bool false), (.bool false), (.bool false), (.bool false), (.bool false), (.bool false), (.bool false), (.bool false), (.bool false), (.bool false), (.bool false), (.bool false), (.bool false), (.bool false), (.bool false), (.bool false), (.bool false), (.bool false), (.bool false), (.bool false), (.bool false), (.bool false), (.bool false), (.bool false), (.bool false), (.bool false), (.bool false), (.bool false), (.bool false), (.bool false), (.bool false), (.bool false), (.bool false), (.bool false), (.bool false), (.bool false), (.bool false), (.bool false), (.bool false), (.bool false), (.bool false), (.bool false), (.bool false), (.bool false), (.bool false), (.bool false), (.bool false), (.bool false), (.bool false), (.bool false), (.bool false), (.bool false), (.bool false), (.bool false), (.bool false), (.bool false), (.bool false), (.bool false), (.bool false), (.bool false), (.bool false), (.bool false), (.bool false), (.bool false), (.bool false), (.bool false), (.bool false), (.bool false), (.bool false), (.bool false), (.bool false), (.bool false), (.bool false), (.bool false), (.bool false), (.bool false), (.bool false), (.bool false), (.bool false), (.bool false), (.bool false), (.bool false), (.bool false), (.bool false), (.bool false), (.bool false), (.bool false), (.bool false), (.bool false), (.bool false), (.bool false), (.bool false), (.bool false), (.bool false), (.bool false), (.bool false), (.bool false), (.bool false), (.bool false), (.bool false), (.bool false), (.bool false), (.bool false), (.bool false), (.bool false), (.bool false), (.bool false), (.bool false), (.bool false), (.bool false), (.bool false), (.bool false), (.bool false), (.bool false), (.bool false), (.bool false), (.bool false), (.bool false), (.bool false), (.bool false), (.bool false), (.bool false), (.bool false), (.bool false), (.bool false), (.bool false), (.bool false), (.bool false), (.bool false), (.bool false), (.bool false), (.bool false), (.bool false), (.bool false), (.bool false), (.bool false), (.bool false), (.bool false), (.bool false), (.bool false), (.bool false), (.bool false), (.bool false), (.bool false), (.bool false)]) 256 256 := TI.mk (by kernel_rfl)
theorem ti120 : TI Tryz.prog 120 (.pointer none) 1 8 := TI.mk (by kernel_rfl)
theorem ti121 : TI Tryz.prog 121 .nilFunc 1 8 := TI.mk (by kernel_rfl)
theorem ti125 : TI Tryz.prog 125 (.int .u64 0) 1 8 := TI.mk (by kernel_rfl)
theorem ti128 : TI Tryz.prog 128 (.pointer none) 1 8 := TI.mk (by kernel_rfl)
theorem ti135 : TI Tryz.prog 135 .nilFunc 1 8 := TI.mk (by kernel_rfl)
theorem ti137 : TI Tryz.prog 137 (.agg #[(.int .u32 0), (.int .u32 0), (.int .u32 0), (.int .u32 0), (.int .u32 0), (.int .u32 0), (.int .u32 0), (.int .u32 0), (.int .u32 0), (.int .u32 0), (.int .u32 0), (.int .u32 0), (.int .u32 0), (.int .u32 0), (.int .u32 0), (.int .u32 0)]) 16 64 := TI.mk (by kernel_rfl)
theorem ti138 : TI Tryz.prog 138 (.pointer none) 1 8 := TI.mk (by kernel_rfl)
theorem ti142 : TI Tryz.prog 142 (.agg #[(.int .u8 0), (.int .u8 0), (.int .u8 0), (.int .u8 0), (.int .u8 0), (.int .u8 0), (.int .u8 0), (.int .u8 0), (.int .u8 0), (.int .u8 0), (.int .u8 0), (.int .u8 0), (.int .u8 0), (.int .u8 0), (.int .u8 0), (.int .u8 0), (.int .u8 0), (.int .u8 0), (.int .u8 0), (.int .u8 0), (.int .u8 0), (.int .u8 0), (.int .u8 0), (.int .u8 0), (.int .u8 0), (.int .u8 0), (.int .u8 0), (.int .u8 0), (.int .u8 0), (.int .u8 0), (.int .u8 0), (.int .u8 0), (.int .u8 0), (.int .u8 0), (.int .u8 0), (.int .u8 0), (.int .u8 0), (.int .u8 0), (.int .u8 0), (.int .u8 0), (.int .u8 0), (.int .u8 0), (.int .u8 0), (.int .u8 0), (.int .u8 0), (.int .u8 0), (.int .u8 0), (.int .u8 0), (.int .u8 0), (.int .u8 0), (.int .u8 0), (.int .u8 0), (.int .u8 0), (.int .u8 0), (.int .u8 0), (.int .u8 0), (.int .u8 0), (.int .u8 0), (.int .u8 0), (.int .u8 0), (.int .u8 0), (.int .u8 0), (.int .u8 0), (.int .u8 0), (.int .u8 0), (.int .u8 0), (.int .u8 0), (.int .u8 0), (.int .u8 0), (.int .u8 0), (.int .u8 0), (.int .u8 0), (.int .u8 0), (.int .u8 0), (.int .u8 0), (.int .u8 0), (.int .u8 0), (.int .u8 0), (.int .u8 0), (.int .u8 0), (.int .u8 0), (.int .u8 0), (.int .u8 0), (.int .u8 0), (.int .u8 0), (.int .u8 0), (.int .u8 0), (.int .u8 0), (.int .u8 0), (.int .u8 0), (.int .u8 0), (.int .u8 0), (.int .u8 0), (.int .u8 0), (.int .u8 0), (.int .u8 0), (.int .u8 0), (.int .u8 0), (.int .u8 0), (.int .u8 0), (.int .u8 0), (.int .u8 0), (.int .u8 0), (.int .u8 0), (.int .u8 0), (.int .u8 0), (.int .u8 0), (.int .u8 0), (.int .u8 0), (.int .u8 0), (.int .u8 0), (.int .u8 0), (.int .u8 0), (.int .u8 0), (.int .u8 0), (.int .u8 0), (.int .u8 0), (.int .u8 0), (.int .u8 0), (.int .u8 0), (.int .u8 0), (.int .u8 0), (.int .u8 0), (.int .u8 0), (.int .u8 0), (.int .u8 0), (.int .u8 0), (.int .u8 0), (.int .u8 0), (.int .u8 0), (.int .u8 0), (.int .u8 0), (.int .u8 0), (.int .u8 0), (.int .u8 0), (.int .u8 0), (.int .u8 0), (.int .u8 0), (.int .u8 0), (.int .u8 0), (.int .u8 0), (.int .u8 0), (.int .u8 0), (.int .u8 0), (.int .u8 0), (.int .u8 0), (.int .u8 0), (.int .u8 0), (.int .u8 0), (.int .u8 0), (.int .u8 0), (.int .u8 0), (.int .u8 0), (.int .u8 0), (.int .u8 0), (.int .u8 0), (.int .u8 0), (.int .u8 0), (.int .u8 0), (.int .u8 0), (.int .u8 0), (.int .u8 0), (.int .u8 0), (.int .u8 0), (.int .u8 0), (.int .u8 0), (.int .u8 0), (.int .u8 0), (.int .u8 0), (.int .u8 0), (.int .u8 0), (.int .u8 0), (.int .u8 0), (.int .u8 0), (.int .u8 0), (.int .u8 0), (.int .u8 0), (.int .u8 0), (.int .u8 0), (.int .u8 0), (.int .u8 0), (.int .u8 0), (.int .u8 0), (.int .u8 0), (.int .u8 0), (.int .u8 0), (.int .u8 0), (.int .u8 0), (.int .u8 0), (.int .u8 0), (.int .u8 0), (.int .u8 0), (.int .u8 0), (.int .u8 0), (.int .u8 0), (.int .u8 0), (.int .u8 0), (.int .u8 0), (.int .u8 0), (.int .u8 0), (.int .u8 0), (.int .u8 0), (.int .u8 0), (.int .u8 0), (.int .u8 0), (.int .u8 0), (.int .u8 0), (.int .u8 0), (.int .u8 0), (.int .u8 0), (.int .u8 0), (.int .u8 0), (.int .u8 0), (.int .u8 0), (.int .u8 0), (.int .u8 0), (.int .u8 0), (.int .u8 0), (.int .u8 0), (.int .u8 0), (.int .u8 0), (.int .u8 0), (.int .u8 0), (.int .u8 0), (.int .u8 0), (.int .u8 0), (.int .u8 0), (.int .u8 0), (.int .u8 0), (.int .u8 0), (.int .u8 0), (.int .u8 0), (.int .u8 0), (.int .u8 0), (.int .u8 0), (.int .u8 0), (.int .u8 0), (.int .u8 0), (.int .u8 0), (.int .u8 0), (.int .u8 0), (.int .u8 0), (.int .u8 0), (.int .u8 0), (.int .u8 0), (.int .u8 0), (.int .u8 0), (.int .u8 0), (.int .u8 0), (.int .u8 0), (.int .u8 0), (.int .u8 0), (.int .u8 0), (.int .u8 0), (.int .u8 0), (.int .u8 0)]) 256 256 := TI.mk (by kernel_rfl)
theorem ti143 : TI Tryz.prog 143 (.agg #[(.int .u8 0), (.int .u8 0)]) 2 2 := TI.mk (by kernel_rfl)
theorem ti144 : TI Tryz.prog 144 (.agg #[(.int .u8 0), (.int .u8 0)]) 2 2 := TI.mk (by kernel_rfl)
theorem ti145 : TI Tryz.prog 145 (.agg #[(.int .u8 0), (.int .u8 0), (.int .u8 0), (.int .u8 0), (.int .u8 0), (.int .u8 0), (.int .u8 0), (.int .u8 0), (.int .u8 0), (.int .u8 0), (.int .u8 0), (.int .u8 0), (.int .u8 0), (.int .u8 0), (.int .u8 0), (.int .u8 0), (.int .u8 0), (.int .u8 0), (.int .u8 0), (.int .u8 0), (.int .u8 0), (.int .u8 0), (.int .u8 0), (.int .u8 0), (.int .u8 0), (.int .u8 0), (.int .u8 0), (.int .u8 0), (.int .u8 0), (.int .u8 0), (.int .u8 0), (.int .u8 0)]) 32 32 := TI.mk (by kernel_rfl)
theorem ti154 : TI Tryz.prog 154 (.int .i64 0) 1 8 := TI.mk (by kernel_rfl)
theorem ti162 : TI Tryz.prog 162 (.int .u64 0) 1 8 := TI.mk (by kernel_rfl)
theorem ti164 : TI Tryz.prog 164 .nilFunc 1 8 := TI.mk (by kernel_rfl)
theorem ti167 : TI Tryz.prog 167 (.pointer none) 1 8 := TI.mk (by kernel_rfl)
theorem ti170 : TI Tryz.prog 170 (.agg #[(.pointer none), (.pointer none), (.pointer none), (.string ⟨#[]⟩)]) 4 40 := TI.mk (by kernel_rfl)
theorem ti171 : TI Tryz.prog 171 (.agg #[(.pointer none), (.pointer none), (.pointer none), (.string ⟨#[]⟩)]) 4 40 := TI.mk (by kernel_rfl)
theorem ti172 : TI Tryz.prog 172 (.agg #[]) 0 0 := TI.mk (by kernel_rfl)
theorem ti173 : TI Tryz.prog 173 (.agg #[]) 0 0 := TI.mk (by kernel_rfl)
theorem ti174 : TI Tryz.prog 174 (.agg #[]) 0 0 := TI.mk (by kernel_rfl)
theorem ti175 : TI Tryz.prog 175 (.int .u8 0) 1 1 := TI.mk (by kernel_rfl)
theorem ti176 : TI Tryz.prog 176 (.int .u8 0) 1 1 := TI.mk (by kernel_rfl)
theorem ti178 : TI Tryz.prog 178 (.int .i32 0) 1 4 := TI.mk (by kernel_rfl)
theorem ti179 : TI Tryz.prog 179 (.int .i32 0) 1 4 := TI.mk (by kernel_rfl)
theorem ti180 : TI Tryz.prog 180 (.agg #[(.int .u64 0), (.int .u64 0), (.int .u32 0), (.int .u8 0), (.int .u8 0), (.int .u8 0), (.int .u8 0), .nilFunc, (.pointer none), (.int .i32 0), (.int .i32 0)]) 11 48 := TI.mk (by kernel_rfl)
theorem ti181 : TI Tryz.prog 181 (.agg #[(.int .u64 0), (.int .u64 0), (.int .u32 0), (.int .u8 0), (.int .u8 0), (.int .u8 0), (.int .u8 0), .nilFunc, (.pointer none), (.int .i32 0), (.int .i32 0)]) 11 48 := TI.mk (by kernel_rfl)
theorem ca2 : Callable Tryz.prog 2 := ⟨_, Tryz.func2, by kernel_rfl, by kernel_rfl⟩
theorem ca3 : Callable Tryz.prog 3 := ⟨_, Tryz.func3, by kernel_rfl, by kernel_rfl⟩
theorem ca4 : Callable Tryz.prog 4 := ⟨_, Tryz.func4, by kernel_rfl, by kernel_rfl⟩
theorem ca5 : Callable Tryz.prog 5 := ⟨_, Tryz.func5, by kernel_rfl, by kernel_rfl⟩
theorem ca6 : Callable Tryz.prog 6 := ⟨_, Tryz.func6, by kernel_rfl, by kernel_rfl⟩
theorem ca7 : Callable Tryz.prog 7 := ⟨_, Tryz.func7, by kernel_rfl, by kernel_rfl⟩
theorem ca8 : Callable Tryz.prog 8 := ⟨_, Tryz.func8, by kernel_rfl, by kernel_rfl⟩
theorem ca9 : Callable Tryz.prog 9 := ⟨_, Tryz.func9, by kernel_rfl, by kernel_rfl⟩
theorem ca10 : Callable Tryz.prog 10 := ⟨_, Tryz.func10, by kernel_rfl, by kernel_rfl⟩
theorem ca11 : Callable Tryz.prog 11 := ⟨_, Tryz.func11, by kernel_rfl, by kernel_rfl⟩
theorem ca12 : Callable Tryz.prog 12 := ⟨_, Tryz.func12, by kernel_rfl, by kernel_rfl⟩
theorem ca13 : Callable Tryz.prog 13 := ⟨_, Tryz.func13, by kernel_rfl, by kernel_rfl⟩
theorem ca14 : Callable Tryz.prog 14 := ⟨_, Tryz.func14, by kernel_rfl, by kernel_rfl⟩
theorem ca15 : Callable Tryz.prog 15 := ⟨_, Tryz.func15, by kernel_rfl, by kernel_rfl⟩
theorem ca16 : Callable Tryz.prog 16 := ⟨_, Tryz.func16, by kernel_rfl, by kernel_rfl⟩
theorem ca17 : Callable Tryz.prog 17 := ⟨_, Tryz.func17, by kernel_rfl, by kernel_rfl⟩
theorem ca18 : Callable Tryz.prog 18 := ⟨_, Tryz.func18, by kernel_rfl, by kernel_rfl⟩
theorem ca19 : Callable Tryz.prog 19 := ⟨_, Tryz.func19, by kernel_rfl, by kernel_rfl⟩
theorem ca20 : Callable Tryz.prog 20 := ⟨_, Tryz.func20, by kernel_rfl, by kernel_rfl⟩
theorem ca21 : Callable Tryz.prog 21 := ⟨_, Tryz.func21, by kernel_rfl, by kernel_rfl⟩
theorem ca22 : Callable Tryz.prog 22 := ⟨_, Tryz.func22, by kernel_rfl, by kernel_rfl⟩
theorem ca23 : Callable Tryz.prog 23 := ⟨_, Tryz.func23, by kernel_rfl, by kernel_rfl⟩
theorem ca24 : Callable Tryz.prog 24 := ⟨_, Tryz.func24, by kernel_rfl, by kernel_rfl⟩
theorem ca25 : Callable Tryz.prog 25 := ⟨_, Tryz.func25, by kernel_rfl, by kernel_rfl⟩
theorem ca26 : Callable Tryz.prog 26 := ⟨_, Tryz.func26, by kernel_rfl, by kernel_rfl⟩
theorem ca27 : Callable Tryz.prog 27 := ⟨_, Tryz.func27, by kernel_rfl, by kernel_rfl⟩
theorem ca28 : Callable Tryz.prog 28 := ⟨_, Tryz.func28, by kernel_rfl, by kernel_rfl⟩
theorem ca29 : Callable Tryz.prog 29 := ⟨_, Tryz.func29, by kernel_rfl, by kernel_rfl⟩
theorem ca30 : Callable Tryz.prog 30 := ⟨_, Tryz.func30, by kernel_rfl, by kernel_rfl⟩
theorem ca31 : Callable Tryz.prog 31 := ⟨_, Tryz.func31, by kernel_rfl, by kernel_rfl⟩
theorem ca32 : Callable Tryz.prog 32 := ⟨_, Tryz.func32, by kernel_rfl, by kernel_rfl⟩
theorem ca33 : Callable Tryz.prog 33 := ⟨_, Tryz.func33, by kernel_rfl, by kernel_rfl⟩
theorem ca34 : Callable Tryz.prog 34 := ⟨_, Tryz.func34, by kernel_rfl, by kernel_rfl⟩
theorem ca35 : Callable Tryz.prog 35 := ⟨_, Tryz.func35, by kernel_rfl, by kernel_rfl⟩
theorem ca36 : Callable Tryz.prog 36 := ⟨_, Tryz.func36, by kernel_rfl, by kernel_rfl⟩
theorem ca37 : Callable Tryz.prog 37 := ⟨_, Tryz.func37, by kernel_rfl, by kernel_rfl⟩
theorem ca38 : Callable Tryz.prog 38 := ⟨_, Tryz.func38, by kernel_rfl, by kernel_rfl⟩
theorem ca39 : Callable Tryz.prog 39 := ⟨_, Tryz.func39, by kernel_rfl, by kernel_rfl⟩
theorem ca40 : Callable Tryz.prog 40 := ⟨_, Tryz.func40, by kernel_rfl, by kernel_rfl⟩
theorem ca41 : Callable Tryz.prog 41 := ⟨_, Tryz.func41, by kernel_rfl, by kernel_rfl⟩
theorem ca42 : Callable Tryz.prog 42 := ⟨_, Tryz.func42, by kernel_rfl, by kernel_rfl⟩
theorem ca43 : Callable Tryz.prog 43 := ⟨_, Tryz.func43, by kernel_rfl, by kernel_rfl⟩
theorem ca44 : Callable Tryz.prog 44 := ⟨_, Tryz.func44, by kernel_rfl, by kernel_rfl⟩
theorem ca45 : Callable Tryz.prog 45 := ⟨_, Tryz.func45, by kernel_rfl, by kernel_rfl⟩
theorem ca46 : Callable Tryz.prog 46 := ⟨_, Tryz.func46, by kernel_rfl, by kernel_rfl⟩
theorem ca47 : Callable Tryz.prog 47 := ⟨_, Tryz.func47, by kernel_rfl, by kernel_rfl⟩
theorem ca48 : Callable Tryz.prog 48 := ⟨_, Tryz.func48, by kernel_rfl, by kernel_rfl⟩
theorem ca49 : Callable Tryz.prog 49 := ⟨_, Tryz.func49, by kernel_rfl, by kernel_rfl⟩
theorem ca50 : Callable Tryz.prog 50 := ⟨_, Tryz.func50, by kernel_rfl, by kernel_rfl⟩
theorem ca51 : Callable Tryz.prog 51 := ⟨_, Tryz.func51, by kernel_rfl, by kernel_rfl⟩
theorem ca52 : Callable Tryz.prog 52 := ⟨_, Tryz.func52, by kernel_rfl, by kernel_rfl⟩
theorem ca53 : Callable Tryz.prog 53 := ⟨_, Tryz.func53, by kernel_rfl, by kernel_rfl⟩
theorem ca54 : Callable Tryz.prog 54 := ⟨_, Tryz.func54, by kernel_rfl, by kernel_rfl⟩
theorem ca55 : Callable Tryz.prog 55 := ⟨_, Tryz.func55, by kernel_rfl, by kernel_rfl⟩
theorem ca56 : Callable Tryz.prog 56 := ⟨_, Tryz.func56, by kernel_rfl, by kernel_rfl⟩
theorem ca57 : Callable Tryz.prog 57 := ⟨_, Tryz.func57, by kernel_rfl, by kernel_rfl⟩
theorem ca58 : Callable Tryz.prog 58 := ⟨_, Tryz.func58, by kernel_rfl, by kernel_rfl⟩
theorem ca59 : Callable Tryz.prog 59 := ⟨_, Tryz.func59, by kernel_rfl, by kernel_rfl⟩
theorem ca60 : Callable Tryz.prog 60 := ⟨_, Tryz.func60, by kernel_rfl, by kernel_rfl⟩
theorem ca61 : Callable Tryz.prog 61 := ⟨_, Tryz.func61, by kernel_rfl, by kernel_rfl⟩
theorem ca62 : Callable Tryz.prog 62 := ⟨_, Tryz.func62, by kernel_rfl, by kernel_rfl⟩
theorem ca63 : Callable Tryz.prog 63 := ⟨_, Tryz.func63, by kernel_rfl, by kernel_rfl⟩
theorem ca64 : Callable Tryz.prog 64 := ⟨_, Tryz.func64, by kernel_rfl, by kernel_rfl⟩
theorem ca65 : Callable Tryz.prog 65 := ⟨_, Tryz.func65, by kernel_rfl, by kernel_rfl⟩
theorem ca66 : Callable Tryz.prog 66 := ⟨_, Tryz.func66, by kernel_rfl, by kernel_rfl⟩
theorem ca67 : Callable Tryz.prog 67 := ⟨_, Tryz.func67, by kernel_rfl, by kernel_rfl⟩
theorem ca68 : Callable Tryz.prog 68 := ⟨_, Tryz.func68, by kernel_rfl, by kernel_rfl⟩
theorem ca69 : Callable Tryz.prog 69 := ⟨_, Tryz.func69, by kernel_rfl, by kernel_rfl⟩
theorem ca70 : Callable Tryz.prog 70 := ⟨_, Tryz.func70, by kernel_rfl, by kernel_rfl⟩
theorem ca71 : Callable Tryz.prog 71 := ⟨_, Tryz.func71, by kernel_rfl, by kernel_rfl⟩
theorem ca72 : Callable Tryz.prog 72 := ⟨_, Tryz.func72, by kernel_rfl, by kernel_rfl⟩
theorem ca73 : Callable Tryz.prog 73 := ⟨_, Tryz.func73, by kernel_rfl, by kernel_rfl⟩
theorem ca74 : Callable Tryz.prog 74 := ⟨_, Tryz.func74, by kernel_rfl, by kernel_rfl⟩
theorem ca75 : Callable Tryz.prog 75 := ⟨_, Tryz.func75, by kernel_rfl, by kernel_rfl⟩
theorem ca76 : Callable Tryz.prog 76 := ⟨_, Tryz.func76, by kernel_rfl, by kernel_rfl⟩
theorem ca77 : Callable Tryz.prog 77 := ⟨_, Tryz.func77, by kernel_rfl, by kernel_rfl⟩
theorem ca78 : Callable Tryz.prog 78 := ⟨_, Tryz.func78, by kernel_rfl, by kernel_rfl⟩
theorem ca79 : Callable Tryz.prog 79 := ⟨_, Tryz.func79, by kernel_rfl, by kernel_rfl⟩
theorem ca80 : Callable Tryz.prog 80 := ⟨_, Tryz.func80, by kernel_rfl, by kernel_rfl⟩
theorem ca81 : Callable Tryz.prog 81 := ⟨_, Tryz.func81, by kernel_rfl, by kernel_rfl⟩
theorem ca82 : Callable Tryz.prog 82 := ⟨_, Tryz.func82, by kernel_rfl, by kernel_rfl⟩
theorem ca83 : Callable Tryz.prog 83 := ⟨_, Tryz.func83, by kernel_rfl, by kernel_rfl⟩
theorem ca84 : Callable Tryz.prog 84 := ⟨_, Tryz.func84, by kernel_rfl, by kernel_rfl⟩
theorem ca85 : Callable Tryz.prog 85 := ⟨_, Tryz.func85, by kernel_rfl, by kernel_rfl⟩
theorem ca86 : Callable Tryz.prog 86 := ⟨_, Tryz.func86, by kernel_rfl, by kernel_rfl⟩
theorem ca87 : Callable Tryz.prog 87 := ⟨_, Tryz.func87, by kernel_rfl, by kernel_rfl⟩
theorem ca88 : Callable Tryz.prog 88 := ⟨_, Tryz.func88, by kernel_rfl, by kernel_rfl⟩
theorem ca89 : Callable Tryz.prog 89 := ⟨_, Tryz.func89, by kernel_rfl, by kernel_rfl⟩
theorem ca90 : Callable Tryz.prog 90 := ⟨_, Tryz.func90, by kernel_rfl, by kernel_rfl⟩
theorem ca93 : Callable Tryz.prog 93 := ⟨_, Tryz.func93, by kernel_rfl, by kernel_rfl⟩
theorem ca94 : Callable Tryz.prog 94 := ⟨_, Tryz.func94, by kernel_rfl, by kernel_rfl⟩
theorem ca95 : Callable Tryz.prog 95 := ⟨_, Tryz.func95, by kernel_rfl, by kernel_rfl⟩
theorem ca96 : Callable Tryz.prog 96 := ⟨_, Tryz.func96, by kernel_rfl, by kernel_rfl⟩
theorem ca97 : Callable Tryz.prog 97 := ⟨_, Tryz.func97, by kernel_rfl, by kernel_rfl⟩
theorem ca98 : Callable Tryz.prog 98 := ⟨_, Tryz.func98, by kernel_rfl, by kernel_rfl⟩
theorem ca99 : Callable Tryz.prog 99 := ⟨_, Tryz.func99, by kernel_rfl, by kernel_rfl⟩
theorem ca100 : Callable Tryz.prog 100 := ⟨_, Tryz.func100, by kernel_rfl, by kernel_rfl⟩
theorem ca101 : Callable Tryz.prog 101 := ⟨_, Tryz.func101, by kernel_rfl, by kernel_rfl⟩
theorem ca103 : Callable Tryz.prog 103 := ⟨_, Tryz.func103, by kernel_rfl, by kernel_rfl⟩
theorem ca104 : Callable Tryz.prog 104 := ⟨_, Tryz.func104, by kernel_rfl, by kernel_rfl⟩
theorem ca105 : Callable Tryz.prog 105 := ⟨_, Tryz.func105, by kernel_rfl, by kernel_rfl⟩
theorem ca106 : Callable Tryz.prog 106 := ⟨_, Tryz.func106, by kernel_rfl, by kernel_rfl⟩
theorem ca107 : Callable Tryz.prog 107 := ⟨_, Tryz.func107, by kernel_rfl, by kernel_rfl⟩
theorem ca108 : Callable Tryz.prog 108 := ⟨_, Tryz.func108, by kernel_rfl, by kernel_rfl⟩
theorem ca109 : Callable Tryz.prog 109 := ⟨_, Tryz.func109, by kernel_rfl, by kernel_rfl⟩
theorem ca110 : Callable Tryz.prog 110 := ⟨_, Tryz.func110, by kernel_rfl, by kernel_rfl⟩
theorem ca111 : Callable Tryz.prog 111 := ⟨_, Tryz.func111, by kernel_rfl, by kernel_rfl⟩
theorem ca112 : Callable Tryz.prog 112 := ⟨_, Tryz.func112, by kernel_rfl, by kernel_rfl⟩
theorem ca113 : Callable Tryz.prog 113 := ⟨_, Tryz.func113, by kernel_rfl, by kernel_rfl⟩
theorem ca114 : Callable Tryz.prog 114 := ⟨_, Tryz.func114, by kernel_rfl, by kernel_rfl⟩
theorem ca115 : Callable Tryz.prog 115 := ⟨_, Tryz.func115, by kernel_rfl, by kernel_rfl⟩
theorem ca116 : Callable Tryz.prog 116 := ⟨_, Tryz.func116, by kernel_rfl, by kernel_rfl⟩
theorem ca117 : Callable Tryz.prog 117 := ⟨_, Tryz.func117, by kernel_rfl, by kernel_rfl⟩
theorem ca119 : Callable Tryz.prog 119 := ⟨_, Tryz.func119, by kernel_rfl, by kernel_rfl⟩
theorem ca120 : Callable Tryz.prog 120 := ⟨_, Tryz.func120, by kernel_rfl, by kernel_rfl⟩
theorem ca121 : Callable Tryz.prog 121 := ⟨_, Tryz.func121, by kernel_rfl, by kernel_rfl⟩
theorem ca122 : Callable Tryz.prog 122 := ⟨_, Tryz.func122, by kernel_rfl, by kernel_rfl⟩
theorem ca123 : Callable Tryz.prog 123 := ⟨_, Tryz.func123, by kernel_rfl, by kernel_rfl⟩
theorem ca124 : Callable Tryz.prog 124 := ⟨_, Tryz.func124, by kernel_rfl, by kernel_rfl⟩
theorem ca125 : Callable Tryz.prog 125 := ⟨_, Tryz.func125, by kernel_rfl, by kernel_rfl⟩
theorem ca148 : Callable Tryz.prog 148 := ⟨_, Tryz.func148, by kernel_rfl, by kernel_rfl⟩
theorem mixed : Tryz.prog.follows .mixedOrders = true := by kernel_rfl
end Go.Q
namespace Go.Q
open Go.Proofs Go.Shelf
def jl_ren : Go.Shelf.Ren := ⟨fun | 156 => 59 | 165 => 64 | 166 => 65 | 169 => 67 | 240 => 83 | 241 => 84 | 276 => 91 | 277 => 92 | n => n, fun | 31 => 79 | 9 => 9 | 3 => 3 | 4 => 4 | 0 => 0 | 20 => 20 | 72 => 109 | 76 => 112 | 70 => 107 | 37 => 87 | 75 => 111 | 127 => 128 | 164 => 138 | 5 => 5 | 80 => 81 | n => n, fun | n => n⟩
theorem jl : Go.Proofs.Lays.n156 Tryz.prog jl_ren := {
  mixed := by kernel_rfl
  f156 := Tryz.func59.trans (congrArg some (by kernel_rfl))
  f165 := Tryz.func64.trans (congrArg some (by kernel_rfl))
  f166 := Tryz.func65.trans (congrArg some (by kernel_rfl))
  f169 := Tryz.func67.trans (congrArg some (by kernel_rfl))
  f240 := Tryz.func83.trans (congrArg some (by kernel_rfl))
  f241 := Tryz.func84.trans (congrArg some (by kernel_rfl))
  f276 := Tryz.func91.trans (congrArg some (by kernel_rfl))
  f277 := Tryz.func92.trans (congrArg some (by kernel_rfl))
  t0 := Tryz.underlying0
  a0 := Tryz.isAgg0
  z0 := Tryz.sizeOf0
  v0 := Tryz.zeroValue0
  t3 := Tryz.underlying3
  a3 := Tryz.isAgg3
  z3 := Tryz.sizeOf3
  v3 := Tryz.zeroValue3
  t4 := Tryz.underlying4
  a4 := Tryz.isAgg4
  z4 := Tryz.sizeOf4
  v4 := Tryz.zeroValue4
  t9 := Tryz.underlying9
  a9 := Tryz.isAgg9
  z9 := Tryz.sizeOf9
  v9 := Tryz.zeroValue9
  t20 := Tryz.underlying20
  a20 := Tryz.isAgg20
  z20 := Tryz.sizeOf20
  v20 := Tryz.zeroValue20
  t31 := Tryz.underlying79
  a31 := Tryz.isAgg79
  z31 := Tryz.sizeOf79
  v31 := Tryz.zeroValue79
  t37 := Tryz.underlying87
  a37 := Tryz.isAgg87
  z37 := Tryz.sizeOf87
  v37 := Tryz.zeroValue87
  t70 := Tryz.underlying107
  a70 := Tryz.isAgg107
  z70 := Tryz.sizeOf107
  v70 := Tryz.zeroValue107
  t72 := Tryz.underlying109
  a72 := Tryz.isAgg109
  z72 := Tryz.sizeOf109
  v72 := Tryz.zeroValue109
  t75 := Tryz.underlying111
  a75 := Tryz.isAgg111
  z75 := Tryz.sizeOf111
  v75 := Tryz.zeroValue111
  t76 := Tryz.underlying112
  a76 := Tryz.isAgg112
  z76 := Tryz.sizeOf112
  v76 := Tryz.zeroValue112
  t127 := Tryz.underlying128
  a127 := Tryz.isAgg128
  z127 := Tryz.sizeOf128
  v127 := Tryz.zeroValue128
  t164 := Tryz.underlying138
  a164 := Tryz.isAgg138
  z164 := Tryz.sizeOf138
  v164 := Tryz.zeroValue138 }
def rpl_ren : Go.Shelf.Ren := ⟨fun | 105 => 39 | 212 => 62 | 99 => 63 | 165 => 64 | 166 => 65 | 170 => 66 | 169 => 67 | 263 => 80 | 264 => 81 | 206 => 82 | 240 => 83 | 241 => 84 | 276 => 91 | 277 => 92 | n => n, fun | 9 => 9 | 3 => 3 | 4 => 4 | 20 => 20 | 0 => 0 | 46 => 36 | 109 => 104 | 5 => 5 | 72 => 109 | 76 => 112 | 51 => 100 | 146 => 123 | 53 => 125 | 148 => 126 | 70 => 107 | 37 => 87 | 75 => 111 | 127 => 128 | 164 => 138 | 80 => 81 | n => n, fun | n => n⟩
theorem rpl : Go.Proofs.Lays.n105 Tryz.prog rpl_ren := {
  mixed := by kernel_rfl
  f99 := Tryz.func63.trans (congrArg some (by kernel_rfl))
  f105 := Tryz.func39.trans (congrArg some (by kernel_rfl))
  f165 := Tryz.func64.trans (congrArg some (by kernel_rfl))
  f166 := Tryz.func65.trans (congrArg some (by kernel_rfl))
  f169 := Tryz.func67.trans (congrArg some (by kernel_rfl))
  f170 := Tryz.func66.trans (congrArg some (by kernel_rfl))
  f206 := Tryz.func82.trans (congrArg some (by kernel_rfl))
  f212 := Tryz.func62.trans (congrArg some (by kernel_rfl))
  f240 := Tryz.func83.trans (congrArg some (by kernel_rfl))
  f241 := Tryz.func84.trans (congrArg some (by kernel_rfl))
  f263 := Tryz.func80.trans (congrArg some (by kernel_rfl))
  f264 := Tryz.func81.trans (congrArg some (by kernel_rfl))
  f276 := Tryz.func91.trans (congrArg some (by kernel_rfl))
  f277 := Tryz.func92.trans (congrArg some (by kernel_rfl))
  t0 := Tryz.underlying0
  a0 := Tryz.isAgg0
  z0 := Tryz.sizeOf0
  v0 := Tryz.zeroValue0
  t3 := Tryz.underlying3
  a3 := Tryz.isAgg3
  z3 := Tryz.sizeOf3
  v3 := Tryz.zeroValue3
  t4 := Tryz.underlying4
  a4 := Tryz.isAgg4
  z4 := Tryz.sizeOf4
  v4 := Tryz.zeroValue4
  t5 := Tryz.underlying5
  a5 := Tryz.isAgg5
  z5 := Tryz.sizeOf5
  v5 := Tryz.zeroValue5
  t9 := Tryz.underlying9
  a9 := Tryz.isAgg9
  z9 := Tryz.sizeOf9
  v9 := Tryz.zeroValue9
  t20 := Tryz.underlying20
  a20 := Tryz.isAgg20
  z20 := Tryz.sizeOf20
  v20 := Tryz.zeroValue20
  t37 := Tryz.underlying87
  a37 := Tryz.isAgg87
  z37 := Tryz.sizeOf87
  v37 := Tryz.zeroValue87
  t46 := Tryz.underlying36
  a46 := Tryz.isAgg36
  z46 := Tryz.sizeOf36
  v46 := Tryz.zeroValue36
  t51 := Tryz.underlying100
  a51 := Tryz.isAgg100
  z51 := Tryz.sizeOf100
  v51 := Tryz.zeroValue100
  t53 := Tryz.underlying125
  a53 := Tryz.isAgg125
  z53 := Tryz.sizeOf125
  v53 := Tryz.zeroValue125
  t70 := Tryz.underlying107
  a70 := Tryz.isAgg107
  z70 := Tryz.sizeOf107
  v70 := Tryz.zeroValue107
  t72 := Tryz.underlying109
  a72 := Tryz.isAgg109
  z72 := Tryz.sizeOf109
  v72 := Tryz.zeroValue109
  t75 := Tryz.underlying111
  a75 := Tryz.isAgg111
  z75 := Tryz.sizeOf111
  v75 := Tryz.zeroValue111
  t76 := Tryz.underlying112
  a76 := Tryz.isAgg112
  z76 := Tryz.sizeOf112
  v76 := Tryz.zeroValue112
  t109 := Tryz.underlying104
  a109 := Tryz.isAgg104
  z109 := Tryz.sizeOf104
  v109 := Tryz.zeroValue104
  t127 := Tryz.underlying128
  a127 := Tryz.isAgg128
  z127 := Tryz.sizeOf128
  v127 := Tryz.zeroValue128
  t146 := Tryz.underlying123
  a146 := Tryz.isAgg123
  z146 := Tryz.sizeOf123
  v146 := Tryz.zeroValue123
  t148 := Tryz.underlying126
  a148 := Tryz.isAgg126
  z148 := Tryz.sizeOf126
  v148 := Tryz.zeroValue126
  t164 := Tryz.underlying138
  a164 := Tryz.isAgg138
  z164 := Tryz.sizeOf138
  v164 := Tryz.zeroValue138 }
def mul_ren : Go.Shelf.Ren := ⟨fun | 212 => 62 | 263 => 80 | 264 => 81 | n => n, fun | 46 => 36 | 51 => 100 | 146 => 123 | 53 => 125 | 148 => 126 | n => n, fun | n => n⟩
theorem mul : Go.Proofs.Lays.n212 Tryz.prog mul_ren := {
  mixed := by kernel_rfl
  f212 := Tryz.func62.trans (congrArg some (by kernel_rfl))
  f263 := Tryz.func80.trans (congrArg some (by kernel_rfl))
  f264 := Tryz.func81.trans (congrArg some (by kernel_rfl))
  t46 := Tryz.underlying36
  a46 := Tryz.isAgg36
  z46 := Tryz.sizeOf36
  v46 := Tryz.zeroValue36
  t51 := Tryz.underlying100
  a51 := Tryz.isAgg100
  z51 := Tryz.sizeOf100
  v51 := Tryz.zeroValue100
  t53 := Tryz.underlying125
  a53 := Tryz.isAgg125
  z53 := Tryz.sizeOf125
  v53 := Tryz.zeroValue125
  t146 := Tryz.underlying123
  a146 := Tryz.isAgg123
  z146 := Tryz.sizeOf123
  v146 := Tryz.zeroValue123
  t148 := Tryz.underlying126
  a148 := Tryz.isAgg126
  z148 := Tryz.sizeOf126
  v148 := Tryz.zeroValue126 }
theorem jl_extra : Builder.Extra Tryz.prog jl_ren := {
  sizeBuilder := by kernel_rfl
  liesBuilder := by kernel_rfl
  t5 := Tryz.underlying5
  a5 := Tryz.isAgg5
  z5 := Tryz.sizeOf5
  v5 := Tryz.zeroValue5
  infoByte := by kernel_rfl
  cellsByte := by kernel_rfl
  sizeByte := by kernel_rfl
  neB5 := by decide }
theorem Has.of_below {E w w' : World} {ss : List (List Hp)} (H : Has E w ss) (hb : Go.RowKit.Below w.heap.size w w') : Has E w' ss :=
  ⟨hb.os.trans H.os, hb.tape.trans H.tape, hb.output.trans H.output, H.dj, fun h hh b o ho => by
    have h1 := Has0.sub H h hh b o ho
    rw [hb.block b (Array.getElem?_eq_some_iff.1 h1).1]; exact h1⟩
theorem join_flat : ∀ l : List (List UInt8), Lib.join l [] = l.flatten
  | [] => rfl
  | [x] => by rw [Lib.join_one]; simp
  | x :: y :: r => by
    have h := join_flat (y :: r)
    unfold Lib.join List.intercalate at *
    rw [List.intersperse_cons_cons, List.flatten_cons, List.flatten_cons, h, List.nil_append]; rfl
theorem join_c {E w : World} {R : List Hp} (hH : Has E w [R]) {v : Value} {l : List (List UInt8)} (hv : Sl R 1 v l.length (l.map S)) (hn : l.length ≤ 1000000) (hl : l.flatten.length ≤ 1000000000) :
    Calls Tryz.prog 59 #[v, S []] w fun e w' => e = .returned (S l.flatten) ∧ Has E w' [R] := by
  obtain ⟨p, cap, rfl, h1, h2, h3, h4⟩ := hv
  rcases Nat.eq_zero_or_pos l.length with h0 | h0
  · obtain rfl := List.eq_nil_of_length_eq_zero h0
    exact (Any.strings_Join_none jl jl_extra p cap ⟨#[]⟩ w).mono fun e w' ⟨he, hw⟩ => ⟨he, by rw [hw]; exact hH⟩
  · obtain ⟨b, off, rfl, hc⟩ := h4 h0
    have hcell : ∀ (j : Nat) x, (l.map (fun a => (⟨a.toArray⟩ : ByteArray)))[j]? = some x → w.cell? ⟨b, off + j, none⟩ = some (.string x) := fun j x hx => by
      rw [List.getElem?_map, Option.map_eq_some_iff] at hx
      obtain ⟨a, ha, rfl⟩ := hx
      exact hH.cell (L := R) (by simp) hc (v := S a) (by rw [List.getElem?_map, ha]; rfl)
    have hb : b < w.heap.size := by
      obtain ⟨x, hx⟩ : ∃ x, l[0]? = some x := ⟨l[0], List.getElem?_eq_getElem h0⟩
      have := hcell 0 ⟨x.toArray⟩ (by rw [List.getElem?_map, hx]; rfl)
      unfold World.cell? at this
      cases hw : w.heap[b]? with
      | none => rw [hw] at this; cases this
      | some o => exact (Array.getElem?_eq_some_iff.1 hw).1
    have e1 : (l.map (fun a => (⟨a.toArray⟩ : ByteArray))).map (·.data.toList) = l := by rw [List.map_map]; simp [Function.comp_def]
    have hj : Lib.join ((l.map (fun a => (⟨a.toArray⟩ : ByteArray))).map (·.data.toList)) ((⟨#[]⟩ : ByteArray).data.toList) = l.flatten := by rw [e1]; exact join_flat l
    have hs := Any.strings_Join jl jl_extra b off cap (l.map (fun a => (⟨a.toArray⟩ : ByteArray))) ⟨#[]⟩ w hcell hb (by rw [List.length_map]; omega) (by rw [List.length_map]; exact h1) (by rw [hj]; omega)
    rw [hj, List.length_map] at hs
    exact hs.mono fun e w' ⟨he, hb⟩ => ⟨he, hH.of_below hb⟩
theorem rpl_extra : Builder.Extra Tryz.prog rpl_ren := {
  sizeBuilder := by kernel_rfl
  liesBuilder := by kernel_rfl
  t5 := Tryz.underlying5
  a5 := Tryz.isAgg5
  z5 := Tryz.sizeOf5
  v5 := Tryz.zeroValue5
  infoByte := by kernel_rfl
  cellsByte := by kernel_rfl
  sizeByte := by kernel_rfl
  neB5 := by decide }
theorem repeat_c {E w : World} {R : List Hp} (hH : Has E w [R]) (n : Nat) (hn : n ≤ 1000000) : Calls Tryz.prog 39 #[S [0], .int .i64 (n : Int)] w fun e w' => e = .returned (S (List.replicate n 0)) ∧ Has E w' [R] := by
  have h := Any.strings_Repeat rpl rpl_extra ⟨#[0]⟩ n w (by omega) (by show 1 * n ≤ _; omega)
  refine h.mono fun e w' ⟨he, hb⟩ => ⟨?_, hH.of_below hb⟩
  rw [he]
  have : ∀ n, Lib.repeatL [(0 : UInt8)] n = List.replicate n 0 := fun n => by
    induction n with
    | zero => rfl
    | succ n ih => simp [Lib.repeatL, List.replicate_succ] at *; try exact ih
  exact congrArg (fun l => Ending.returned (Value.string ⟨l.toArray⟩)) (this n)
theorem mul_c {E w : World} {R : List Hp} (hH : Has E w [R]) (x y : Nat) (h : x * y < 18446744073709551616) (hx : x < 18446744073709551616) (hy : y < 18446744073709551616) : Calls Tryz.prog 62 #[.int .u64 x, .int .u64 y] w fun e w' => e = .returned (.tuple #[.int .u64 0, .int .u64 ((x * y : Nat) : Int)]) ∧ Has E w' [R] := by
  refine (Any.bits_Mul mul x y hx hy w).mono fun e w' ⟨he, hw⟩ => ⟨?_, hw ▸ hH⟩
  rw [he, Nat.div_eq_of_lt h, Nat.mod_eq_of_lt h]; rfl
end Go.Q
namespace Go.Q
open Go.MapKept
def lookN : List (Int × Value) → Int → Nat → Option (Nat × Value)
  | [], _, _ => none
  | (a, v) :: t, k, i => if k = a then some (i, v) else lookN t k (i + 1)
def ents (l : List (Int × Value)) : List (Value × Value) := l.map fun p => (.int .i64 p.1, p.2)
theorem findNow_int (k : Int) : ∀ (es : List MapEntry) (l : List (Int × Value)) (i : Nat), es.map (fun e => (e.key, e.val)) = ents l → Instr.findNow (.int .i64) (.int .i64 k) es i = some (lookN l k i)
  | [], [], i, _ => rfl
  | [], _ :: _, i, h => by simp [ents] at h
  | _ :: _, [], i, h => by simp [ents] at h
  | e :: es, (a, v) :: l, i, h => by
    simp only [ents, List.map_cons, List.cons.injEq, Prod.mk.injEq] at h
    obtain ⟨⟨h1, h2⟩, h3⟩ := h
    unfold Instr.findNow
    rw [h1]
    simp only [Instr.sameNow, if_true]
    by_cases g : k = a
    · subst g; simp [lookN, h2]
    · have : (k == a) = false := by simpa using g
      rw [this]
      simp only
      rw [findNow_int k es l (i + 1) h3]
      simp [lookN, g]
def getM (l : List (Int × Value)) (k : Int) : Option Value := (lookN l k 0).map (·.2)
theorem lookN_shift (l : List (Int × Value)) (k : Int) : ∀ i, lookN l k i = (lookN l k 0).map fun p => (p.1 + i, p.2) := by
  induction l with
  | nil => intro i; rfl
  | cons p t ih =>
    intro i
    obtain ⟨a, v⟩ := p
    simp only [lookN]
    split
    · simp
    · rw [ih (i + 1), ih 1]
      cases lookN t k 0 <;> simp; omega
theorem getM_cons (a : Int) (v : Value) (t : List (Int × Value)) (k : Int) : getM ((a, v) :: t) k = if k = a then some v else getM t k := by
  simp only [getM, lookN]
  split
  · rfl
  · rw [lookN_shift]; cases lookN t k 0 <;> rfl
def putM : List (Int × Value) → Int → Value → List (Int × Value)
  | [], k, v => [(k, v)]
  | (a, u) :: t, k, v => if k = a then (k, v) :: t else (a, u) :: putM t k v
theorem getM_put (k : Int) (v : Value) (k' : Int) : ∀ l, getM (putM l k v) k' = if k' = k then some v else getM l k'
  | [] => by rw [putM, getM_cons]
  | (a, u) :: t => by
    rw [putM]
    split
    · rename_i h; subst h; rw [getM_cons, getM_cons]; split <;> rfl
    · rename_i h
      rw [getM_cons, getM_cons, getM_put k v k' t]
      split
      · rename_i g; rw [if_neg (fun e => h (e.symm.trans g))]
      · rfl
theorem put_found (k : Int) (v : Value) : ∀ (l : List (Int × Value)) (i : Nat) (u : Value) (j : Nat), lookN l k j = some (i + j, u) → putM l k v = l.set i (k, v)
  | [], i, u, j, h => by cases h
  | (a, x) :: t, i, u, j, h => by
    rw [lookN] at h
    rw [putM]
    split at h
    · rename_i g
      obtain rfl : i = 0 := by simp at h; omega
      rw [if_pos g]; rfl
    · rename_i g
      rw [if_neg g]
      cases i with
      | zero =>
        exfalso
        rw [lookN_shift] at h
        cases hl : lookN t k 0 with
        | none => rw [hl] at h; cases h
        | some p => rw [hl] at h; simp at h; omega
      | succ i => rw [put_found k v t i u (j + 1) (by rw [h]; congr 2; omega)]; rfl
theorem put_none' (k : Int) (v : Value) : ∀ (l : List (Int × Value)) (j : Nat), lookN l k j = none → putM l k v = l ++ [(k, v)]
  | [], _, _ => rfl
  | (a, x) :: t, j, h => by
    rw [lookN] at h
    split at h
    · cases h
    · rename_i g; rw [putM, if_neg g, put_none' k v t (j + 1) h]; rfl
theorem lookN_get (k : Int) : ∀ (l : List (Int × Value)) (i : Nat) (u : Value) (j : Nat), lookN l k j = some (i + j, u) → l[i]? = some (k, u)
  | [], i, u, j, h => by cases h
  | (a, x) :: t, i, u, j, h => by
    rw [lookN] at h
    split at h
    · rename_i g
      obtain rfl : i = 0 := by simp at h; omega
      simp at h; simp [g, h]
    · rename_i g
      cases i with
      | zero =>
        exfalso
        rw [lookN_shift] at h
        cases hl : lookN t k 0 with
        | none => rw [hl] at h; cases h
        | some p => rw [hl] at h; simp at h; omega
      | succ i => simpa using lookN_get k t i u (j + 1) (by rw [h]; congr 2; omega)
theorem modify_map {β γ : Type} (f : β → β) (g : β → γ) (z : γ) (hz : ∀ e, g (f e) = z) : ∀ (l : List β) (i : Nat), (l.modify i f).map g = (l.map g).set i z
  | [], i => by simp
  | e :: t, 0 => by simp [hz]
  | e :: t, i + 1 => by simp [modify_map f g z hz t i]
theorem Has.setMap {E w : World} {ss : List (List Hp)} {b : Nat} {o o' : Obj} (H : Has E w ([Hp.one b o] :: ss)) : Has E { w with heap := w.heap.setIfInBounds b o' } ([Hp.one b o'] :: ss) := by
  have hwb : w.heap[b]? = some o := H.at (h := Hp.one b o) (by simp) (Hp.one_at _ _)
  have hlt : b < w.heap.size := (Array.getElem?_eq_some_iff.1 hwb).1
  refine Has0.write (an := [Hp.one b o]) (an' := [Hp.one b o']) (hs := ss.flatten) H rfl rfl rfl (by simp) ?_ ?_ ?_
  · intro k hk
    have hk := hk _ (List.mem_singleton.2 rfl)
    refine .inl fun h hh => ?_
    rw [List.mem_singleton.1 hh]
    unfold Hp.one at hk ⊢
    split at hk
    · cases hk
    · rw [if_neg (by assumption)]
  · intro h hh k o hk
    rw [List.mem_singleton.1 hh] at hk
    obtain ⟨rfl, rfl⟩ := Hp.one_some hk
    simp [hlt]
  · intro k _ hk
    have hk := hk _ (List.mem_singleton.2 rfl)
    have : k ≠ b := by rintro rfl; rw [Hp.one_at] at hk; cases hk
    simp [Array.getElem?_setIfInBounds, Ne.symm this]
section ops
variable {P : Program} {ρ : Operand → Value} {E w : World} {ss : List (List Hp)} {K : Value → World → Prop} {dst : Option Tmp} {T : TypeId} {pos : String} {after : Array Edge} {g : Option (Nat × Bool)}
theorem o_lookup {x y : Operand} {t kt et : TypeId} {b : Nat} {es : Array MapEntry} {c : Nat} {l : List (Int × Value)} {z : Value} {sz by_ : Nat} {k : Int} (ht : P.underlying t = some (.map kt et)) (hk : P.underlying kt = some (.int .i64)) (hz : TI P et z sz by_)
    (hx : ρ x = .map (some b)) (hy : ρ y = .int .i64 k) (H : Has E w ss) {L : List Hp} (hL : L ⊆ ss.flatten) (hb : ∃ h ∈ L, h b = some (.map es c)) (he : es.toList.map (fun e => (e.key, e.val)) = ents l) (hK : K ((getM l k).getD z) w) :
    OK P ⟨dst, .lookup t x y false, T, pos, after, g⟩ ρ w K := by
  obtain ⟨h, hh, hb⟩ := hb
  have hwb := H.at (hL hh) hb
  refine OK.val (run_v ?_) hK
  rw [hx, hy]
  have hf := run_findKey (P := P) (w := w) hk (findNow_int k es.toList l 0 he)
  obtain ⟨i, hi, hiz, _, _⟩ := hz
  have hc : (Instr.checkKey es.isEmpty 10000 kt (.int .i64 k)).run P w = .ok () w := run_checkKey hk (by simp [IsKey]) es.isEmpty 9999
  have hg : (getObj b).run P w = .ok (.map es c) w := by simp [getObj, Sem.run, hwb]
  cases hl : lookN l k 0 with
  | none => rw [hl] at hf; simp [Instr.lookup, run_underlying ht, hg, hf, hc, getM, hl, zeroValue, typeInfo, hi, hiz, Result.andThen]
  | some p => rw [hl] at hf; simp [Instr.lookup, run_underlying ht, hg, hf, hc, getM, hl, Result.andThen]
theorem run_stays {w : World} (a b : Int) (h : a = b) : (Instr.keyThatStays (.int .i64 a) (.int .i64 b)).run P w = .ok (.int .i64 b) w := by
  subst h; simp [Instr.keyThatStays, Instr.sameBits]
theorem o_mapUpdate {x y u : Operand} {t kt et : TypeId} {b : Nat} {es : Array MapEntry} {c : Nat} {l : List (Int × Value)} {v : Value} {k : Int} (ht : P.underlying t = some (.map kt et)) (hk : P.underlying kt = some (.int .i64))
    (hx : ρ x = .map (some b)) (hy : ρ y = .int .i64 k) (hu : ρ u = v) (H : Has E w ([Hp.one b (.map es c)] :: ss)) (he : es.toList.map (fun e => (e.key, e.val)) = ents l)
    (hK : ∀ es' c' w', es'.toList.map (fun e : MapEntry => (e.key, e.val)) = ents (putM l k v) → Has E w' ([Hp.one b (.map es' c')] :: ss) → K undef w') :
    OK P ⟨dst, .mapUpdate t x y u, T, pos, after, g⟩ ρ w K := by
  have hwb : w.heap[b]? = some (.map es c) := H.at (h := Hp.one b (.map es c)) (by simp) (Hp.one_at _ _)
  have hf := run_findKey (P := P) (w := w) hk (findNow_int k es.toList l 0 he)
  have hc : (Instr.checkKey false 10000 kt (.int .i64 k)).run P w = .ok () w := run_checkKey hk (by simp [IsKey]) false 9999
  have hg : (getObj b).run P w = .ok (.map es c) w := by simp [getObj, Sem.run, hwb]
  have hs : ∀ o, (setObj b o).run P w = .ok () { w with heap := w.heap.setIfInBounds b o } := fun o => run_setObj_map o hwb
  cases hl : lookN l k 0 with
  | none =>
    rw [hl] at hf
    refine OK.skip (w' := { w with heap := w.heap.setIfInBounds b (.map (es.push ⟨.int .i64 k, v, c⟩) (c + 1)) }) (run_u ?_) (hK _ _ _ ?_ H.setMap)
    · rw [hx, hy, hu]; simp [Instr.mapUpdate, run_underlying ht, hg, hf, hc, hs, Result.andThen]
    · rw [put_none' k v l 0 hl]; simp [he, ents]
  | some p =>
    obtain ⟨i, v0⟩ := p
    rw [hl] at hf
    have hi := lookN_get k l i v0 0 hl
    have hes : ∃ e, es[i]? = some e ∧ e.key = .int .i64 k := by
      have h1 : (es.toList.map (fun e : MapEntry => (e.key, e.val)))[i]? = some (.int .i64 k, v0) := by rw [he, ents, List.getElem?_map, hi]; rfl
      rw [List.getElem?_map, Option.map_eq_some_iff] at h1
      obtain ⟨e, h2, h3⟩ := h1
      exact ⟨e, by simpa using h2, congrArg Prod.fst h3⟩
    obtain ⟨e, h2, h3⟩ := hes
    refine OK.skip (w' := { w with heap := w.heap.setIfInBounds b (.map (es.modify i fun e => { e with key := .int .i64 k, val := v }) c) }) (run_u ?_) (hK _ _ _ ?_ H.setMap)
    · rw [hx, hy, hu]; simp [Instr.mapUpdate, run_underlying ht, hg, hf, hc, hs, Result.andThen, h2, h3, run_stays]
    · rw [put_found k v l i v0 0 hl, Array.toList_modify, modify_map (fun e : MapEntry => { e with key := .int .i64 k, val := v }) (fun e : MapEntry => (e.key, e.val)) (Value.int .i64 k, v) (fun _ => rfl), he, ents, ents, List.map_set]
end ops
end Go.Q
namespace Go.Q
open Go.MapKept
section
variable {κ β : Type} [DecidableEq κ]
def lookB : List (κ × β) → κ → Nat → Option (Nat × β)
  | [], _, _ => none
  | (a, v) :: t, k, i => if k = a then some (i, v) else lookB t k (i + 1)
def getB : List (κ × β) → κ → Option β
  | [], _ => none
  | (a, v) :: t, k => if k = a then some v else getB t k
def putB : List (κ × β) → κ → β → List (κ × β)
  | [], k, v => [(k, v)]
  | (a, u) :: t, k, v => if k = a then (k, v) :: t else (a, u) :: putB t k v
def delB : List (κ × β) → κ → List (κ × β)
  | [], _ => []
  | (a, u) :: t, k => if k = a then t else (a, u) :: delB t k
theorem lookB_shift (k : κ) : ∀ (l : List (κ × β)) (i : Nat), lookB l k i = (lookB l k 0).map fun p => (p.1 + i, p.2)
  | [], _ => rfl
  | (a, v) :: t, i => by
    simp only [lookB]
    split
    · simp
    · rw [lookB_shift k t (i + 1), lookB_shift k t 1]
      cases lookB t k 0 <;> simp; omega
theorem lookB_val (k : κ) : ∀ (l : List (κ × β)) (i : Nat), (lookB l k i).map (·.2) = getB l k
  | [], _ => rfl
  | (a, v) :: t, i => by
    simp only [lookB, getB]
    split
    · rfl
    · exact lookB_val k t (i + 1)
theorem lookB_cons {a k : κ} {u v : β} {t : List (κ × β)} {i : Nat} (hne : k ≠ a) (h : lookB ((a, u) :: t) k 0 = some (i, v)) : ∃ j, i = j + 1 ∧ lookB t k 0 = some (j, v) := by
  rw [lookB, if_neg hne, lookB_shift] at h
  cases hl : lookB t k 0 with
  | none => rw [hl] at h; cases h
  | some p =>
    rw [hl] at h
    obtain ⟨j, x⟩ := p
    simp only [Option.map_some, Option.some.injEq, Prod.mk.injEq] at h
    exact ⟨j, by omega, by rw [h.2]⟩
theorem lookB_get (k : κ) : ∀ (l : List (κ × β)) (i : Nat) (v : β), lookB l k 0 = some (i, v) → l[i]? = some (k, v)
  | [], _, _, h => by cases h
  | (a, u) :: t, i, v, h => by
    by_cases g : k = a
    · rw [lookB, if_pos g] at h
      simp only [Option.some.injEq, Prod.mk.injEq] at h
      obtain ⟨rfl, rfl⟩ := h; subst g; rfl
    · obtain ⟨j, rfl, h'⟩ := lookB_cons g h
      simpa using lookB_get k t j v h'
theorem putB_at (k : κ) (v : β) : ∀ (l : List (κ × β)) (i : Nat) (u : β), lookB l k 0 = some (i, u) → putB l k v = l.set i (k, v)
  | [], _, _, h => by cases h
  | (a, x) :: t, i, u, h => by
    rw [putB]
    by_cases g : k = a
    · rw [lookB, if_pos g] at h
      simp only [Option.some.injEq, Prod.mk.injEq] at h
      obtain ⟨rfl, rfl⟩ := h; rw [if_pos g]; rfl
    · obtain ⟨j, rfl, h'⟩ := lookB_cons g h
      rw [if_neg g, putB_at k v t j u h']; rfl
theorem putB_new (k : κ) (v : β) : ∀ (l : List (κ × β)) (i : Nat), lookB l k i = none → putB l k v = l ++ [(k, v)]
  | [], _, _ => rfl
  | (a, x) :: t, i, h => by
    rw [lookB] at h
    split at h
    · cases h
    · rename_i g; rw [putB, if_neg g, putB_new k v t (i + 1) h]; rfl
theorem delB_at (k : κ) : ∀ (l : List (κ × β)) (i : Nat) (u : β), lookB l k 0 = some (i, u) → delB l k = l.eraseIdx i
  | [], _, _, h => by cases h
  | (a, x) :: t, i, u, h => by
    rw [delB]
    by_cases g : k = a
    · rw [lookB, if_pos g] at h
      simp only [Option.some.injEq, Prod.mk.injEq] at h
      obtain ⟨rfl, rfl⟩ := h; rw [if_pos g]; rfl
    · obtain ⟨j, rfl, h'⟩ := lookB_cons g h
      rw [if_neg g, delB_at k t j u h']; rfl
theorem delB_none (k : κ) : ∀ (l : List (κ × β)) (i : Nat), lookB l k i = none → delB l k = l
  | [], _, _ => rfl
  | (a, x) :: t, i, h => by
    rw [lookB] at h
    split at h
    · cases h
    · rename_i g; rw [delB, if_neg g, delB_none k t (i + 1) h]
theorem getB_put (k : κ) (v : β) (k' : κ) : ∀ l : List (κ × β), getB (putB l k v) k' = if k' = k then some v else getB l k'
  | [] => by simp [putB, getB]
  | (a, u) :: t => by
    rw [putB]
    split
    · rename_i h; subst h; simp only [getB]; split <;> rfl
    · rename_i h
      simp only [getB]; rw [getB_put k v k' t]
      split
      · rename_i g; rw [if_neg (fun e => h (e.symm.trans g))]
      · rfl
theorem getB_mem {k : κ} : ∀ {l : List (κ × β)}, (getB l k).isSome = true ↔ k ∈ l.map (·.1)
  | [] => by simp [getB]
  | (a, u) :: t => by
    rw [getB, List.map_cons, List.mem_cons]
    split
    · simp [*]
    · rw [getB_mem]; simp [*]
theorem getB_none {k : κ} {l : List (κ × β)} (h : k ∉ l.map (·.1)) : getB l k = none := by
  cases e : getB l k with
  | none => rfl
  | some v => exact absurd (getB_mem.1 (by rw [e]; rfl)) h
theorem getB_del (k k' : κ) : ∀ l : List (κ × β), (l.map (·.1)).Nodup → getB (delB l k) k' = if k' = k then none else getB l k'
  | [], _ => by simp [delB, getB]
  | (a, u) :: t, hn => by
    have h2 := List.nodup_cons.1 hn
    rw [delB]
    split
    · rename_i h
      subst h
      simp only [getB]
      split
      · rename_i g; subst g; exact getB_none h2.1
      · rfl
    · rename_i h
      simp only [getB]; rw [getB_del k k' t h2.2]
      split
      · rename_i g; rw [if_neg (fun e => h (e.symm.trans g))]
      · rfl
theorem putB_keys (k : κ) (v : β) : ∀ l : List (κ × β), (putB l k v).map (·.1) = if k ∈ l.map (·.1) then l.map (·.1) else l.map (·.1) ++ [k]
  | [] => by simp [putB]
  | (a, u) :: t => by
    rw [putB]
    split
    · rename_i h; subst h; simp
    · rename_i h
      rw [List.map_cons, putB_keys k v t]
      simp only [List.map_cons, List.mem_cons, h, false_or]
      split <;> simp
theorem delB_sub (k : κ) : ∀ l : List (κ × β), (delB l k).Sublist l
  | [] => .slnil
  | (a, u) :: t => by
    rw [delB]
    split
    · exact List.sublist_cons_self _ _
    · exact (delB_sub k t).cons_cons _
end
/-- Keys of this type are told apart at once. -/
structure KeyAt {κ : Type} [DecidableEq κ] (P : Program) (kt : TypeId) (g : κ → Value) : Prop where
  inj : ∀ a b, g a = g b → a = b
  now : ∃ d, P.underlying kt = some d ∧ (∀ a, IsKey d (g a)) ∧ ∀ a b, Instr.sameNow d (g a) (g b) = some (decide (a = b))
  bits : ∀ a, Instr.sameBits 10000 (g a) (g a) = true
section
variable {κ β : Type}
/-- The entries of a map. -/
def MapV (g : κ → Value) (f : β → Value) (es : Array MapEntry) (c : Nat) (l : List (κ × β)) : Prop := es.toList.map (fun e : MapEntry => (e.key, e.val)) = l.map (fun p => (g p.1, f p.2)) ∧ Stamped es c
theorem MapV.nil {g : κ → Value} {f : β → Value} : MapV g f #[] 0 [] := ⟨rfl, stamped_empty 0⟩
theorem MapV.empty {g : κ → Value} {f : β → Value} (c : Nat) : MapV g f #[] c [] := ⟨rfl, stamped_empty c⟩
theorem MapV.keys {g : κ → Value} {f : β → Value} {es : Array MapEntry} {c : Nat} {l : List (κ × β)} (h : MapV g f es c l) : es.toList.map (·.key) = l.map (fun p => g p.1) := by
  have := congrArg (List.map (·.1)) h.1
  simpa [List.map_map, Function.comp_def] using this
theorem MapV.nodup {g : κ → Value} {f : β → Value} {es : Array MapEntry} {c : Nat} {l : List (κ × β)} (h : MapV g f es c l) : (l.map (·.1)).Nodup := by
  have h1 := h.2.2.2
  rw [h.keys] at h1
  refine List.pairwise_map.2 ((List.pairwise_map.1 h1).imp fun hne e => hne (by rw [e]))
theorem MapV.size {g : κ → Value} {f : β → Value} {es : Array MapEntry} {c : Nat} {l : List (κ × β)} (h : MapV g f es c l) : es.size = l.length := by
  have := congrArg List.length h.1; simpa using this
end
section
variable {κ β : Type} [DecidableEq κ]
theorem findNow_key {g : κ → Value} {f : β → Value} {d : TypeDesc} (hd : ∀ a b, Instr.sameNow d (g a) (g b) = some (decide (a = b))) (k : κ) : ∀ (es : List MapEntry) (l : List (κ × β)) (i : Nat), es.map (fun e : MapEntry => (e.key, e.val)) = l.map (fun p => (g p.1, f p.2)) →
    Instr.findNow d (g k) es i = some ((lookB l k i).map fun p => (p.1, f p.2))
  | [], [], i, _ => rfl
  | [], _ :: _, i, h => by simp at h
  | _ :: _, [], i, h => by simp at h
  | e :: es, (a, v) :: l, i, h => by
    simp only [List.map_cons, List.cons.injEq, Prod.mk.injEq] at h
    obtain ⟨⟨h1, h2⟩, h3⟩ := h
    unfold Instr.findNow
    rw [h1, hd]
    by_cases e : k = a
    · rw [decide_eq_true e]; simp [lookB, e, h2]
    · rw [decide_eq_false e]; simp only
      rw [findNow_key hd k es l (i + 1) h3]; simp [lookB, e]
end
theorem map_eraseB {α γ : Type} (f : α → γ) : ∀ (l : List α) (i : Nat), (l.eraseIdx i).map f = (l.map f).eraseIdx i
  | [], _ => rfl
  | _ :: _, 0 => rfl
  | x :: l, i + 1 => by rw [List.eraseIdx_cons_succ, List.map_cons, List.map_cons, List.eraseIdx_cons_succ, map_eraseB f l i]
def valB {β : Type} (f : β → Value) (z : Value) : Option β → Value
  | some v => f v
  | none => z
section ops
variable {P : Program} {ρ : Operand → Value} {E w : World} {ss : List (List Hp)} {K : Value → World → Prop} {dst : Option Tmp} {T : TypeId} {pos : String} {after : Array Edge} {g : Option (Nat × Bool)}
variable {κ β : Type} [DecidableEq κ] {gk : κ → Value} {f : β → Value}
theorem o_lookupB {x y : Operand} {t kt et : TypeId} {b : Nat} {es : Array MapEntry} {c : Nat} {l : List (κ × β)} {z : Value} {sz by_ : Nat} {k : κ} {ok : Bool} (ht : P.underlying t = some (.map kt et)) (hk : KeyAt P kt gk) (hz : TI P et z sz by_)
    (hx : ρ x = .map (some b)) (hy : ρ y = gk k) (H : Has E w ss) {L : List Hp} (hL : L ⊆ ss.flatten) (hb : L = [Hp.one b (.map es c)]) (he : MapV gk f es c l)
    (hK : K (if ok then .tuple #[valB f z (getB l k), .bool (getB l k).isSome] else valB f z (getB l k)) w) :
    OK P ⟨dst, .lookup t x y ok, T, pos, after, g⟩ ρ w K := by
  have hwb := H.at (hL (by rw [hb]; exact List.mem_singleton.2 rfl)) (Hp.one_at b (.map es c))
  obtain ⟨d, hd, hik, hnow⟩ := hk.now
  refine OK.val (run_v ?_) hK
  rw [hx, hy]
  have hf := run_findKey (P := P) (w := w) hd (findNow_key (f := f) hnow k es.toList l 0 he.1)
  obtain ⟨i, hi, hiz, _, _⟩ := hz
  have hc : (Instr.checkKey es.isEmpty 10000 kt (gk k)).run P w = .ok () w := run_checkKey hd (hik k) es.isEmpty 9999
  have hg : (getObj b).run P w = .ok (.map es c) w := by simp [getObj, Sem.run, hwb]
  have hv := lookB_val (β := β) k l 0
  cases hl : lookB l k 0 with
  | none =>
    rw [hl] at hf hv
    have hv : getB l k = none := hv.symm
    rw [hv]
    cases ok <;> simp [Instr.lookup, run_underlying ht, hg, hf, hc, zeroValue, typeInfo, hi, hiz, Result.andThen, valB]
  | some p =>
    rw [hl] at hf hv
    have hv : getB l k = some p.2 := hv.symm
    rw [hv]
    cases ok <;> simp [Instr.lookup, run_underlying ht, hg, hf, hc, Result.andThen, valB]
theorem o_lookupNil {x y : Operand} {t kt et : TypeId} {z : Value} {sz by_ : Nat} {k : κ} {ok : Bool} (ht : P.underlying t = some (.map kt et)) (hk : KeyAt P kt gk) (hz : TI P et z sz by_)
    (hx : ρ x = .map none) (hy : ρ y = gk k) (hK : K (if ok then .tuple #[z, .bool false] else z) w) : OK P ⟨dst, .lookup t x y ok, T, pos, after, g⟩ ρ w K := by
  obtain ⟨d, hd, hik, hnow⟩ := hk.now
  refine OK.val (run_v ?_) hK
  rw [hx, hy]
  have hf := run_findKey (P := P) (w := w) hd (l := []) (k := gk k) (a := none) rfl
  obtain ⟨i, hi, hiz, _, _⟩ := hz
  have hc : (Instr.checkKey true 10000 kt (gk k)).run P w = .ok () w := run_checkKey hd (hik k) true 9999
  cases ok <;> simp [Instr.lookup, run_underlying ht, hf, hc, zeroValue, typeInfo, hi, hiz, Result.andThen]
theorem o_mapUpdateB {x y u : Operand} {t kt et : TypeId} {b : Nat} {es : Array MapEntry} {c : Nat} {l : List (κ × β)} {v : β} {k : κ} (ht : P.underlying t = some (.map kt et)) (hk : KeyAt P kt gk)
    (hx : ρ x = .map (some b)) (hy : ρ y = gk k) (hu : ρ u = f v) (H : Has E w ([Hp.one b (.map es c)] :: ss)) (he : MapV gk f es c l)
    (hK : ∀ es' c' w', MapV gk f es' c' (putB l k v) → Has E w' ([Hp.one b (.map es' c')] :: ss) → K undef w') :
    OK P ⟨dst, .mapUpdate t x y u, T, pos, after, g⟩ ρ w K := by
  have hwb : w.heap[b]? = some (.map es c) := H.at (h := Hp.one b (.map es c)) (by simp) (Hp.one_at _ _)
  obtain ⟨d, hd, hik, hnow⟩ := hk.now
  have hf := run_findKey (P := P) (w := w) hd (findNow_key (f := f) hnow k es.toList l 0 he.1)
  have hc : (Instr.checkKey false 10000 kt (gk k)).run P w = .ok () w := run_checkKey hd (hik k) false 9999
  have hg : (getObj b).run P w = .ok (.map es c) w := by simp [getObj, Sem.run, hwb]
  have hs : ∀ o, (setObj b o).run P w = .ok () { w with heap := w.heap.setIfInBounds b o } := fun o => run_setObj_map o hwb
  cases hl : lookB l k 0 with
  | none =>
    rw [hl] at hf
    refine OK.skip (w' := { w with heap := w.heap.setIfInBounds b (.map (es.push ⟨gk k, f v, c⟩) (c + 1)) }) (run_u ?_) (hK _ _ _ ⟨?_, stamped_push he.2 ?_⟩ H.setMap)
    · rw [hx, hy, hu]; simp [Instr.mapUpdate, run_underlying ht, hg, hf, hc, hs, Result.andThen]
    · rw [putB_new k v l 0 hl]; simp [he.1]
    · intro x hx e
      have h1 : x.key ∈ es.toList.map (·.key) := List.mem_map.2 ⟨x, hx, rfl⟩
      rw [he.keys, e] at h1
      obtain ⟨p, hp, hpe⟩ := List.mem_map.1 h1
      have hpk := hk.inj _ _ hpe
      have h2 := (getB_mem (k := k) (l := l)).2 (List.mem_map.2 ⟨p, hp, hpk⟩)
      rw [← lookB_val k l 0, hl] at h2; cases h2
  | some p =>
    obtain ⟨i, v0⟩ := p
    rw [hl] at hf
    have hi := lookB_get k l i v0 hl
    have hes : ∃ e, es[i]? = some e ∧ e.key = gk k := by
      have h1 : (es.toList.map (fun e : MapEntry => (e.key, e.val)))[i]? = some (gk k, f v0) := by rw [he.1, List.getElem?_map, hi]; rfl
      rw [List.getElem?_map, Option.map_eq_some_iff] at h1
      obtain ⟨e, h2, h3⟩ := h1
      exact ⟨e, by simpa using h2, congrArg Prod.fst h3⟩
    obtain ⟨e, h2, h3⟩ := hes
    have hst : (Instr.keyThatStays (gk k) (gk k)).run P w = .ok (gk k) w := by simp [Instr.keyThatStays, hk.bits k]
    refine OK.skip (w' := { w with heap := w.heap.setIfInBounds b (.map (es.modify i fun e => { e with key := gk k, val := f v }) c) }) (run_u ?_) (hK _ _ _ ⟨?_, stamped_modify he.2 i (fun e => { e with key := gk k, val := f v }) (fun _ _ => rfl) (fun e' _ h => ?_)⟩ H.setMap)
    · rw [hx, hy, hu]; simp [Instr.mapUpdate, run_underlying ht, hg, hf, hc, hs, Result.andThen, h2, h3, hst]
    · rw [putB_at k v l i v0 hl, Array.toList_modify, modify_map (fun e : MapEntry => { e with key := gk k, val := f v }) (fun e : MapEntry => (e.key, e.val)) (gk k, f v) (fun _ => rfl), he.1, List.map_set]
    · rw [h2] at h; cases h; exact h3.symm
theorem o_delete {x y : Operand} {t kt et t2 : TypeId} {b : Nat} {es : Array MapEntry} {c : Nat} {l : List (κ × β)} {k : κ} (ht : P.underlying t = some (.map kt et)) (hk : KeyAt P kt gk)
    (hx : ρ x = .map (some b)) (hy : ρ y = gk k) (H : Has E w ([Hp.one b (.map es c)] :: ss)) (he : MapV gk f es c l)
    (hK : ∀ es' c' w', MapV gk f es' c' (delB l k) → Has E w' ([Hp.one b (.map es' c')] :: ss) → K (.tuple #[]) w') :
    OK P ⟨dst, .call ⟨.builtin .delete, #[x, y], #[t, t2]⟩, T, pos, after, g⟩ ρ w K := by
  have hwb : w.heap[b]? = some (.map es c) := H.at (h := Hp.one b (.map es c)) (by simp) (Hp.one_at _ _)
  obtain ⟨d, hd, hik, hnow⟩ := hk.now
  have hf := run_findKey (P := P) (w := w) hd (findNow_key (f := f) hnow k es.toList l 0 he.1)
  have hc : (Instr.checkKey es.isEmpty 10000 kt (gk k)).run P w = .ok () w := run_checkKey hd (hik k) es.isEmpty 9999
  have hg : (getObj b).run P w = .ok (.map es c) w := by simp [getObj, Sem.run, hwb]
  have hs : ∀ o, (setObj b o).run P w = .ok () { w with heap := w.heap.setIfInBounds b o } := fun o => run_setObj_map o hwb
  cases hl : lookB l k 0 with
  | none =>
    rw [hl] at hf
    refine o_call_builtin (v := .tuple #[]) (w' := { w with heap := w.heap.setIfInBounds b (.map es c) }) ?_ (hK _ _ _ (by rw [delB_none k l 0 hl]; exact he) H.setMap)
    simp [hx, hy, builtin, Builtin.delete_, run_underlying ht, hg, hf, hc, hs, Result.andThen]
  | some p =>
    obtain ⟨i, v0⟩ := p
    rw [hl] at hf
    have hi := lookB_get k l i v0 hl
    have hlt : i < es.size := by rw [he.size]; exact (List.getElem?_eq_some_iff.1 hi).1
    refine o_call_builtin (v := .tuple #[]) (w' := { w with heap := w.heap.setIfInBounds b (.map (es.eraseIdxIfInBounds i) c) }) ?_ (hK _ _ _ ⟨?_, stamped_erase he.2 i⟩ H.setMap)
    · simp [hx, hy, builtin, Builtin.delete_, run_underlying ht, hg, hf, hc, hs, Result.andThen]
    · rw [delB_at k l i v0 hl, map_eraseB, ← he.1]
      unfold Array.eraseIdxIfInBounds
      rw [dif_pos hlt, Array.toList_eraseIdx, map_eraseB]
end ops
section ops
variable {P : Program} {ρ : Operand → Value} {E w : World} {ss : List (List Hp)} {K : Value → World → Prop} {dst : Option Tmp} {T : TypeId} {pos : String} {after : Array Edge} {g : Option (Nat × Bool)}
variable {κ β : Type} {gk : κ → Value} {f : β → Value}
theorem o_clearMap {x : Operand} {t kt et : TypeId} {b : Nat} {es : Array MapEntry} {c : Nat} {l : List (κ × β)} (ht : P.underlying t = some (.map kt et))
    (hx : ρ x = .map (some b)) (H : Has E w ([Hp.one b (.map es c)] :: ss)) (he : MapV gk f es c l)
    (hK : ∀ es' c' w', MapV gk f es' c' ([] : List (κ × β)) → Has E w' ([Hp.one b (.map es' c')] :: ss) → K (.tuple #[]) w') :
    OK P ⟨dst, .call ⟨.builtin .clear, #[x], #[t]⟩, T, pos, after, g⟩ ρ w K := by
  have hwb : w.heap[b]? = some (.map es c) := H.at (h := Hp.one b (.map es c)) (by simp) (Hp.one_at _ _)
  have hg : (getObj b).run P w = .ok (.map es c) w := by simp [getObj, Sem.run, hwb]
  have hs : ∀ o, (setObj b o).run P w = .ok () { w with heap := w.heap.setIfInBounds b o } := fun o => run_setObj_map o hwb
  refine o_call_builtin (v := .tuple #[]) (w' := { w with heap := w.heap.setIfInBounds b (.map #[] c) }) ?_ (hK _ _ _ (MapV.empty c) H.setMap)
  simp [hx, builtin, Builtin.clear_, run_underlying ht, hg, hs, Result.andThen]
theorem o_lenMap {x : Operand} {t kt et : TypeId} {b : Nat} {es : Array MapEntry} {c : Nat} {l : List (κ × β)} (ht : P.underlying t = some (.map kt et))
    (hx : ρ x = .map (some b)) (H : Has E w ss) {L : List Hp} (hL : L ⊆ ss.flatten) (hb : L = [Hp.one b (.map es c)]) (he : MapV gk f es c l) (hK : K (.int .i64 l.length) w) :
    OK P ⟨dst, .call ⟨.builtin .len, #[x], #[t]⟩, T, pos, after, g⟩ ρ w K := by
  have hwb := H.at (hL (by rw [hb]; exact List.mem_singleton.2 rfl)) (Hp.one_at b (.map es c))
  have hg : (getObj b).run P w = .ok (.map es c) w := by simp [getObj, Sem.run, hwb]
  refine o_call_builtin (w' := w) ?_ hK
  simp [hx, builtin, Builtin.len_, run_underlying ht, hg, Result.andThen, goInt, he.size]
end ops
section ops
variable {P : Program} {ρ : Operand → Value} {E w : World} {ss : List (List Hp)} {K : Value → World → Prop} {dst : Option Tmp} {T : TypeId} {pos : String} {after : Array Edge} {g : Option (Nat × Bool)}
variable {κ : Type} [DecidableEq κ] {gk : κ → Value}
theorem valB_S (o : Option (List UInt8)) : valB sV (S []) o = S (o.getD []) := by cases o <;> rfl
theorem o_lookupSk {x y : Operand} {t kt et : TypeId} {b : Nat} {es : Array MapEntry} {c : Nat} {l : List (κ × List UInt8)} {sz by_ : Nat} {k : κ} (ht : P.underlying t = some (.map kt et)) (hk : KeyAt P kt gk) (hz : TI P et (S []) sz by_)
    (hx : ρ x = .map (some b)) (hy : ρ y = gk k) (H : Has E w ss) {L : List Hp} (hL : L ⊆ ss.flatten) (hb : L = [Hp.one b (.map es c)]) (he : MapV gk sV es c l)
    (hK : K (.tuple #[S ((getB l k).getD []), .bool (getB l k).isSome]) w) : OK P ⟨dst, .lookup t x y true, T, pos, after, g⟩ ρ w K :=
  o_lookupB (f := sV) ht hk hz hx hy H hL hb he (by rw [if_pos rfl, valB_S]; exact hK)
theorem o_lookupS {x y : Operand} {t kt et : TypeId} {b : Nat} {es : Array MapEntry} {c : Nat} {l : List (κ × List UInt8)} {sz by_ : Nat} {k : κ} (ht : P.underlying t = some (.map kt et)) (hk : KeyAt P kt gk) (hz : TI P et (S []) sz by_)
    (hx : ρ x = .map (some b)) (hy : ρ y = gk k) (H : Has E w ss) {L : List Hp} (hL : L ⊆ ss.flatten) (hb : L = [Hp.one b (.map es c)]) (he : MapV gk sV es c l)
    (hK : K (S ((getB l k).getD [])) w) : OK P ⟨dst, .lookup t x y false, T, pos, after, g⟩ ρ w K :=
  o_lookupB (f := sV) ht hk hz hx hy H hL hb he (by rw [if_neg (by decide), valB_S]; exact hK)
end ops
theorem key_int {P : Program} {kt : TypeId} (h : P.underlying kt = some (.int .i64)) : KeyAt P kt iV :=
  ⟨fun a b e => by simpa [iV] using e, ⟨_, h, fun _ => rfl, fun a b => by simp only [iV, Instr.sameNow, if_true]; rfl⟩, fun a => by simp [iV, Instr.sameBits]⟩
theorem bytes_beq (a b : List UInt8) : ((⟨a.toArray⟩ : ByteArray) == ⟨b.toArray⟩) = decide (a = b) := by
  show (a.toArray == b.toArray) = _
  by_cases e : a = b
  · subst e; simp
  · simp [e]
theorem key_string {P : Program} {kt : TypeId} (h : P.underlying kt = some .string) : KeyAt P kt S :=
  ⟨fun a b e => by simpa [S] using e, ⟨_, h, fun _ => trivial, fun a b => by simp only [S, Instr.sameNow, bytes_beq]⟩, fun a => by simp only [S, Instr.sameBits, bytes_beq, decide_true]⟩
end Go.Q
namespace Go.Q
def OwnAt (e : TypeId) (v : Value) (n : Nat) (cs : List Value) (hs : List Hp) (b : Nat) : Prop :=
  ∃ cap cur, v = .slice (some ⟨b, 0, none⟩) n cap ∧ hs = [Hp.one b (.cells cur e (0, 0))] ∧ n ≤ cap ∧ cap ≤ maxLen ∧ cur.size = cap * 1 ∧ cur.toList.take (n * 1) = cs ∧ cs.length = n * 1
section ops
variable {P : Program} {ρ : Operand → Value} {E w : World} {ss : List (List Hp)} {K : Value → World → Prop} {dst : Option Tmp} {T : TypeId} {pos : String} {after : Array Edge} {g : Option (Nat × Bool)}
theorem o_ownAddr {x y : Operand} {t e : TypeId} {hs : List Hp} {n by_ : Nat} {v z : Value} {cs : List Value} {k : IntKind} {i : Int} (ht : P.underlying t = some (.slice e)) (hi : TI P e z 1 by_)
    (hx : ρ x = v) (ho : Own e 1 v n cs hs) (hy : ρ y = .int k i) (h0 : 0 ≤ i) (h1 : i < n) (hK : ∀ b, OwnAt e v n cs hs b → K (.pointer (some ⟨b, i.toNat, none⟩)) w) :
    OK P ⟨dst, .indexAddr t x y, T, pos, after, g⟩ ρ w K := by
  obtain ⟨hl, ⟨rfl, h2, rfl⟩ | ⟨b, cap, cur, rfl, rfl, hnc, hcm, hsz, hc⟩⟩ := ho
  · omega
  · refine OK.val (run_v (v := .pointer (some ⟨b, i.toNat, none⟩)) ?_) (hK b ⟨cap, cur, rfl, rfl, hnc, hcm, hsz, hc, hl⟩)
    rw [hx, hy]
    simp [Instr.indexAt, asIntOf, run_underlying ht, h0, h1, hi.size, add_lit]
theorem o_ownStore {α : Type} {f : α → Value} {l : List α} {a : α} {x y : Operand} {t e : TypeId} {hs : List Hp} {n i b by_ : Nat} {v z : Value} (hi : TI P t z 1 by_) (hx : ρ x = .pointer (some ⟨b, i, none⟩)) (hy : ρ y = f a)
    (hv : (f a).oneCell' = true) (ho : OwnAt e v n (l.map f) hs b) (hlt : i < n) (H : Has E w (hs :: ss)) (hK : ∀ hs' w', Own e 1 v (l.set i a).length ((l.set i a).map f) hs' → Has E w' (hs' :: ss) → K undef w') :
    OK P ⟨dst, .store t x y, T, pos, after, g⟩ ρ w K := by
  obtain ⟨cap, cur, rfl, rfl, hnc, hcm, hsz, hc, hl⟩ := ho
  have hln : (l.set i a).length = n := by simpa using hl
  refine o_store1 (c' := cur.setIfInBounds i (f a)) hi hx hy hv (by omega) rfl H fun w' H' => hK _ w' ?_ H'
  rw [hln]
  refine ⟨by simpa using hl, .inr ⟨b, cap, _, rfl, rfl, hnc, hcm, by simpa using hsz, ?_⟩⟩
  rw [Array.toList_setIfInBounds, List.take_set, hc, List.map_set]
end ops
end Go.Q
namespace Go.Q
abbrev Bs := List UInt8
theorem flat_len {α : Type} {f : α → List Value} {sz : Nat} (hf : ∀ a, (f a).length = sz) : ∀ l : List α, (l.flatMap f).length = l.length * sz
  | [] => by simp
  | a :: l => by rw [List.flatMap_cons, List.length_append, hf, flat_len hf l, List.length_cons, Nat.succ_mul, Nat.add_comm]
theorem flat_part {α : Type} {f : α → List Value} {sz : Nat} (hf : ∀ a, (f a).length = sz) : ∀ (l : List α) (i : Nat) (x : α), l[i]? = some x → ((l.flatMap f).drop (i * sz)).take sz = f x
  | [], i, x, h => by simp at h
  | a :: l, 0, x, h => by
    have e : a = x := by simpa using h
    subst e
    rw [List.flatMap_cons, Nat.zero_mul, List.drop_zero, List.take_append_of_le_length (by rw [hf]; exact Nat.le_refl _), List.take_of_length_le (by rw [hf]; exact Nat.le_refl _)]
  | a :: l, i + 1, x, h => by
    rw [List.flatMap_cons, Nat.succ_mul, List.drop_append, List.drop_of_length_le (by rw [hf]; omega), List.nil_append, hf, Nat.add_sub_cancel]
    exact flat_part hf l i x (by simpa using h)
theorem Own.appF {α : Type} {f : α → List Value} {e : TypeId} {sz n m : Nat} {v : Value} {a b : List α} {hs : List Hp} (H : Own e sz v (n + m) (a.flatMap f ++ b.flatMap f) hs) (hn : n = a.length := by rfl) (hm : m = b.length := by rfl) :
    Own e sz v (a ++ b).length ((a ++ b).flatMap f) hs := by
  subst hn hm
  rw [List.length_append, List.flatMap_append]; exact H
theorem sl_litF {α : Type} {f : α → List Value} {sz : Nat} {l : List α} {b : Nat} {c : Array Value} {T : TypeId} {g : Nat × Nat} {n : Nat} (hf : ∀ a, (f a).length = sz) (hc : c.toList = l.flatMap f) (hn : l.length = n) (hm : n ≤ 9223372036854775807) :
    Sl [Hp.one b (.cells c T g)] sz (.slice (some ⟨b, 0, none⟩) n n) l.length (l.flatMap f) := by
  subst hn
  exact ⟨_, _, rfl, Nat.le_refl _, hm, flat_len hf l, fun _ => ⟨b, 0, rfl, CellsAt.one (by rw [hc, List.drop_zero, List.take_length])⟩⟩
theorem one_flat {α : Type} {f : α → List Value} (h1 : ∀ a, ∀ u ∈ f a, u.oneCell' = true) (l : List α) : ∀ u ∈ l.flatMap f, u.oneCell' = true := fun u hu => by
  obtain ⟨a, _, h⟩ := List.mem_flatMap.1 hu
  exact h1 a u h
theorem CellsAt.field {L : List Hp} {b off k : Nat} {cs ds : List Value} (H : CellsAt L b off cs) (h : (cs.drop k).take ds.length = ds) : CellsAt L b (off + k) ds :=
  H.sub fun j v hv => by
    rw [← h, List.getElem?_take] at hv
    split at hv
    · rw [List.getElem?_drop] at hv; exact hv
    · cases hv
section ops
variable {P : Program} {ρ : Operand → Value} {E w : World} {ss : List (List Hp)} {K : Value → World → Prop} {dst : Option Tmp} {T : TypeId} {pos : String} {after : Array Edge} {g : Option (Nat × Bool)}
theorem o_indexF {α : Type} {f : α → List Value} {l : List α} {a : α} {x y : Operand} {t e : TypeId} {L : List Hp} {sz n by_ : Nat} {v z : Value} {k : IntKind} {i : Int} (hf : ∀ a, (f a).length = sz) (ht : P.underlying t = some (.slice e)) (hi : TI P e z sz by_)
    (hx : ρ x = v) (hs : Sl L sz v n (l.flatMap f)) (hn : n = l.length) (hy : ρ y = .int k i) (h0 : 0 ≤ i) (ha : l[i.toNat]? = some a) (hK : ∀ b off, CellsAt L b off (f a) → K (.pointer (some ⟨b, off, none⟩)) w) :
    OK P ⟨dst, .indexAddr t x y, T, pos, after, g⟩ ρ w K := by
  have hlt := (List.getElem?_eq_some_iff.1 ha).1
  refine o_indexAddr ht hi hx hs hy h0 (by omega) fun b off hc => hK b off ?_
  rw [flat_part hf l i.toNat a ha] at hc
  exact hc
end ops
/-- heaplets taken out one by one -/
def pickL : List Nat → List (List Hp) → List (List Hp)
  | [], _ => []
  | c :: cs, ss => match ss[c]? with | some s => s :: pickL cs (ss.eraseIdx c) | none => []
theorem pickL_sub : ∀ (cs : List Nat) (ss : List (List Hp)), ∃ rest, ss.Perm (pickL cs ss ++ rest)
  | [], ss => ⟨ss, List.Perm.refl _⟩
  | c :: cs, ss => by
    unfold pickL
    split
    · rename_i s hs
      obtain ⟨rest, h⟩ := pickL_sub cs (ss.eraseIdx c)
      have hf := perm_front c ss
      unfold Q.front at hf
      rw [hs] at hf
      exact ⟨rest, hf.symm.trans (by rw [List.cons_append]; exact h.cons s)⟩
    · exact ⟨ss, List.Perm.refl _⟩
theorem Has.pick {E w : World} {ss ts : List (List Hp)} (H : Has E w ss) (cs : List Nat) (h : pickL cs ss = ts) : Has E w ts := by
  subst h
  obtain ⟨rest, h⟩ := pickL_sub cs ss
  exact (H.perm h.symm).sub (List.sublist_append_left _ _)
/-- one cell of the front block, written -/
theorem Has.set1 {E w : World} {ss : List (List Hp)} {b off : Nat} {c : Array Value} {U : TypeId} {v : Value} (hlt : off < c.size) (H : Has E w ([Hp.one b (.cells c U (0, 0))] :: ss)) :
    Has E (w.setCell ⟨b, off, none⟩ v) ([Hp.one b (.cells (c.setIfInBounds off v) U (0, 0))] :: ss) := by
  have hwb : w.heap[b]? = some (.cells c U (0, 0)) := H.at (h := Hp.one b (.cells c U (0, 0))) (by simp) (Hp.one_at _ _)
  refine Has0.write (an := [Hp.one b (.cells c U (0, 0))]) (an' := [Hp.one b (.cells (c.setIfInBounds off v) U (0, 0))]) (hs := ss.flatten) H rfl rfl rfl (by simp) ?_ ?_ ?_
  · intro k hk
    have hk := hk _ (List.mem_singleton.2 rfl)
    refine .inl fun h hh => ?_
    rw [List.mem_singleton.1 hh]
    unfold Hp.one at hk ⊢
    split at hk
    · cases hk
    · rw [if_neg (by assumption)]
  · intro h hh k o hk
    rw [List.mem_singleton.1 hh] at hk
    obtain ⟨rfl, rfl⟩ := Hp.one_some hk
    simp only [World.setCell, Array.getElem?_modify]
    simp [hwb]
  · intro k _ hk
    have hk := hk _ (List.mem_singleton.2 rfl)
    have : k ≠ b := by rintro rfl; rw [Hp.one_at] at hk; cases hk
    simp only [World.setCell, Array.getElem?_modify]
    rw [if_neg (by omega)]
def setFrom (c : Array Value) (k : Nat) : List Value → Array Value
  | [] => c
  | v :: vs => setFrom (c.setIfInBounds k v) (k + 1) vs
theorem run_stores {P : Program} {E : World} {ss : List (List Hp)} {b off : Nat} {U : TypeId} : ∀ (vs : List Value) (i : Nat) (c : Array Value) (w : World), Has E w ([Hp.one b (.cells c U (0, 0))] :: ss) → off + i + vs.length ≤ c.size → (∀ v ∈ vs, v.oneCell' = true) →
    ∃ w', (storeCells ⟨b, off, none⟩ vs i).run P w = .ok () w' ∧ Has E w' ([Hp.one b (.cells (setFrom c (off + i) vs) U (0, 0))] :: ss)
  | [], i, c, w, H, _, _ => ⟨w, rfl, H⟩
  | v :: vs, i, c, w, H, hl, h1 => by
    have hlt : off + i < c.size := by simp only [List.length_cons] at hl; omega
    have hwb : w.heap[b]? = some (.cells c U (0, 0)) := H.at (h := Hp.one b (.cells c U (0, 0))) (by simp) (Hp.one_at _ _)
    have hcell : w.cell? ⟨b, off + i, none⟩ = some c[off + i] := by rw [cell_of_row w b (off + i) c U (0, 0) hwb]; simp [hlt]
    have hfz : w.frozen? ⟨b, off + i, none⟩ = false := by simp [World.frozen?, hwb]
    obtain ⟨w', hr, H'⟩ := run_stores (b := b) (off := off) (U := U) vs (i + 1) (c.setIfInBounds (off + i) v) (w.setCell ⟨b, off + i, none⟩ v) (H.set1 hlt) (by simp only [Array.size_setIfInBounds, List.length_cons] at hl ⊢; omega) (fun u hu => h1 u (List.mem_cons_of_mem _ hu))
    refine ⟨w', ?_, H'⟩
    have h1v := h1 v (List.mem_cons_self ..)
    simp only [storeCells, Sem.run_bind, add_lit, run_store P w ⟨b, off + i, none⟩ v .plain h1v, hcell, hfz]
    simpa using hr
section ops
variable {P : Program} {ρ : Operand → Value} {E w : World} {ss : List (List Hp)} {K : Value → World → Prop} {dst : Option Tmp} {T : TypeId} {pos : String} {after : Array Edge} {g : Option (Nat × Bool)}
theorem o_storeN {x y : Operand} {t : TypeId} {b off sz : Nat} {c c' : Array Value} {U : TypeId} {v z : Value} {vs : List Value} {by_ : Nat} (hi : TI P t z sz by_) (hx : ρ x = .pointer (some ⟨b, off, none⟩)) (hy : ρ y = v)
    (hv : v.cells = vs.toArray) (hn : vs.length = sz) (h1 : ∀ u ∈ vs, u.oneCell' = true) (hlt : off + sz ≤ c.size) (hc : setFrom c off vs = c') (H : Has E w ([Hp.one b (.cells c U (0, 0))] :: ss))
    (hK : ∀ w', Has E w' ([Hp.one b (.cells c' U (0, 0))] :: ss) → K undef w') : OK P ⟨dst, .store t x y, T, pos, after, g⟩ ρ w K := by
  obtain ⟨w', hr, H'⟩ := run_stores (P := P) (b := b) (off := off) (U := U) vs 0 c w H (by omega) h1
  refine OK.skip (w' := w') (run_u ?_) (hK _ (by rw [← hc]; exact H'))
  rw [hx, hy]
  simp only [Instr.storeAt, Instr.sureAddr, Sem.run_bind, Sem.run_pure, Result.andThen_ok, storeVar, hi.size, hv]
  simpa [hn] using hr
end ops
theorem wrap_u64 (x : Int) : 0 ≤ IntKind.wrap .u64 x ∧ IntKind.wrap .u64 x < 18446744073709551616 := by
  simp only [IntKind.wrap, IntKind.bits, IntKind.signed]
  simp
  constructor
  · exact Int.emod_nonneg _ (by decide)
  · exact Int.emod_lt_of_pos _ (by decide)
/-- A time of a key. -/
def tmC (p : Int × Int) : List Value := [iV p.1, iV p.2]
/-- An act of layer 9. -/
structure ActL where
  kind : Int
  stream : Int
  page : Int
  txn : Int
  n : Int
  more : Value
  ml : List Int
def actC (a : ActL) : List Value := [iV a.kind, iV a.stream, iV a.page, iV a.txn, iV a.n, a.more]
theorem actC_len (a : ActL) : (actC a).length = 6 := rfl
theorem tmC_len (a : Int × Int) : (tmC a).length = 2 := rfl
/-- An act whose row of numbers reads. -/
def ActOk (R : List Hp) (a : ActL) : Prop := (∀ x ∈ [a.kind, a.stream, a.page, a.txn, a.n], (-9223372036854775808 : Int) ≤ x ∧ x ≤ 9223372036854775807) ∧ Ints R a.more a.ml ∧ ∀ x ∈ a.ml, (-9223372036854775808 : Int) ≤ x ∧ x ≤ 9223372036854775807
theorem one_tm (l : List (Int × Int)) : ∀ u ∈ l.flatMap tmC, u.oneCell' = true := one_flat (fun p u hu => by
  rcases List.mem_cons.1 hu with e | hu
  · rw [e]; rfl
  · rw [List.mem_singleton.1 hu]; rfl) l
end Go.Q
namespace Go.Q
/-- a fact that omega does not look at -/
def Hide (p : Prop) : Prop := p
theorem rsl_ex4 (o sz : Nat) {i j m : Int} (h0 : 0 ≤ i) (h1 : i ≤ j) (h2 : j ≤ m) :
    ∃ o' n' c' : Nat, Hide (o' = if m = i then o else o + i.toNat * sz) ∧ (n' : Int) = j - i ∧ (c' : Int) = m - i ∧ (c' = 0 ∨ o' = o + i.toNat * sz) ∧ o' ≤ o + i.toNat * sz :=
  ⟨_, (j - i).toNat, (m - i).toNat, rfl, by omega, by omega, by split <;> omega, by split <;> omega⟩
theorem del_law {α : Type} {c c1 c2 : List α} {I N o1 n1 o2 m d o3 : Nat} (h1 : c1 = if 0 < m then c.take (o1 + n1 * 1) ++ (c.drop o2).take (m * 1) ++ c.drop d else c) (h2 : c2.take o3 = c1.take o3)
    (e1 : o1 + n1 = I) (e2 : m = 0 ∨ o2 = I + 1) (e3 : m = N - (I + 1)) (e4 : o3 = N - 1) (hI : I < N) (hN : N ≤ c.length) : c2.take (N - 1) = c.take I ++ (c.take N).drop (I + 1) := by
  rw [← e4, h2, h1]
  by_cases hm : 0 < m
  · obtain rfl : o2 = I + 1 := by omega
    rw [if_pos hm, Nat.mul_one, Nat.mul_one, e1, List.drop_take, e3]
    have l1 : (c.take I ++ (c.drop (I + 1)).take (N - (I + 1))).length = o3 := by simp only [List.length_append, List.length_take, List.length_drop]; omega
    rw [List.take_left' l1]
  · rw [if_neg hm, show o3 = I by omega, List.drop_of_length_le (by rw [List.length_take]; omega), List.append_nil]
theorem mem_part1 {α : Type} {c : List α} {u : α} {o a N : Nat} (h : u ∈ (c.drop o).take a) (hb : a = 0 ∨ o + a ≤ N) : u ∈ c.take N := by
  rcases hb with hb | hb
  · subst hb; simp at h
  · rw [List.take_drop] at h
    have h2 := List.mem_of_mem_drop h
    rw [show c.take (o + a) = (c.take N).take (o + a) by rw [List.take_take, Nat.min_eq_left hb]] at h2
    exact List.mem_of_mem_take h2
end Go.Q
namespace Go.Q
/-- ref.With: d: 'it is in already' -/
def withS (n : Int) : Bool → List Int → List Int
  | d, [] => if d then [] else [n]
  | d, x :: l => (if d = false ∧ n ≤ x then [n] else []) ++ (if x ≠ n then [x] else []) ++ withS n (d || decide (n ≤ x)) l
theorem withS_true (n : Int) : ∀ l : List Int, withS n true l = l.filter (fun x => decide (x ≠ n))
  | [] => rfl
  | x :: l => by
    rw [withS, Bool.true_or, withS_true n l, if_neg (by simp), List.nil_append]
    by_cases h : x = n
    · simp [h]
    · simp [h]
theorem withS_mem (n a : Int) : ∀ l : List Int, a ∈ withS n false l ↔ a = n ∨ a ∈ l
  | [] => by simp [withS]
  | x :: l => by
    rw [withS, Bool.false_or]
    by_cases h : n ≤ x
    · rw [decide_eq_true h, withS_true, if_pos ⟨rfl, h⟩]
      by_cases e : x = n
      · subst e; simp; grind
      · simp [e]; grind
    · rw [decide_eq_false h, if_neg (fun g => h g.2), if_pos (by omega)]
      simp [withS_mem n a l]; grind
theorem withS_sorted (n : Int) : ∀ l : List Int, l.Pairwise (· < ·) → (withS n false l).Pairwise (· < ·)
  | [], _ => by simp [withS]
  | x :: l, h => by
    have h2 := List.pairwise_cons.1 h
    rw [withS, Bool.false_or]
    by_cases g : n ≤ x
    · rw [decide_eq_true g, withS_true, if_pos ⟨rfl, g⟩]
      have hf := h2.2.filter (fun y => decide (y ≠ n))
      by_cases e : x = n
      · subst e; simp only [ne_eq, not_true, if_false, List.append_nil, List.singleton_append]
        exact List.pairwise_cons.2 ⟨fun a ha => h2.1 a ((List.mem_filter.1 ha).1), hf⟩
      · rw [if_pos e]
        refine List.pairwise_cons.2 ⟨fun a ha => ?_, List.pairwise_cons.2 ⟨fun a ha => h2.1 a ((List.mem_filter.1 ha).1), hf⟩⟩
        rcases List.mem_cons.1 ha with rfl | ha
        · omega
        · have := h2.1 a ((List.mem_filter.1 ha).1); omega
    · rw [decide_eq_false g, if_neg (fun k => g k.2), if_pos (by omega)]
      refine List.pairwise_cons.2 ⟨fun a ha => ?_, withS_sorted n l h2.2⟩
      rcases (withS_mem n a l).1 ha with rfl | ha
      · omega
      · exact h2.1 a ha
theorem withS_len (n : Int) : ∀ l : List Int, l.Pairwise (· < ·) → (withS n false l).length = l.length + (if n ∈ l then 0 else 1) ∧ (withS n true l).length + (if n ∈ l then 1 else 0) = l.length
  | [], _ => by simp [withS]
  | x :: l, h => by
    have h2 := List.pairwise_cons.1 h
    obtain ⟨i1, i2⟩ := withS_len n l h2.2
    rw [withS, withS, Bool.false_or, Bool.true_or]
    by_cases e : x = n
    · subst e
      have hn : x ∉ l := fun g => by have := h2.1 x g; omega
      rw [if_neg hn] at i1 i2
      simp; omega
    · have hm : n ∈ x :: l ↔ n ∈ l := by simp; omega
      simp only [hm, List.length_cons, if_pos e]
      by_cases g : n ≤ x
      · have hn : n ∉ l := fun k => by have := h2.1 n k; omega
        rw [decide_eq_true g, if_neg hn, if_neg hn, if_pos (by simp [g])]
        rw [if_neg hn] at i2
        simp; omega
      · rw [decide_eq_false g, if_neg (fun k => g k.2)]
        simp; omega
theorem with_step {n : Int} {b d : Bool} {l acc : List Int} {k : Nat} {x : Int} (h : withS n b l = acc ++ withS n d (l.drop k)) (hx : l[k]? = some x) :
    withS n b l = acc ++ ((if d = false ∧ n ≤ x then [n] else []) ++ (if x ≠ n then [x] else [])) ++ withS n (d || decide (n ≤ x)) (l.drop (k + 1)) := by
  rw [h, drop_of hx, withS]; simp [List.append_assoc]
/-- what With leaves, both ways -/
theorem with_mem {n a : Int} {b : Bool} {l : List Int} : a ∈ withS n (!b) l ↔ (if b = true then a = n ∨ a ∈ l else a ∈ l ∧ a ≠ n) := by
  cases b with
  | true => rw [if_pos rfl]; exact withS_mem n a l
  | false => rw [if_neg (by decide)]; show a ∈ withS n true l ↔ _; rw [withS_true]; simp
theorem with_sorted {n : Int} {b : Bool} {l : List Int} (h : l.Pairwise (· < ·)) : (withS n (!b) l).Pairwise (· < ·) := by
  cases b with
  | true => exact withS_sorted n l h
  | false => show (withS n true l).Pairwise _; rw [withS_true]; exact h.filter _
/-- the first and the last one, or 0 -/
def firstS (l : List Int) : Int := (l[0]?).getD 0
def lastS (l : List Int) : Int := (l[l.length - 1]?).getD 0
theorem firstS_of {l : List Int} {x : Int} (h : l[0]? = some x) : firstS l = x := by rw [firstS, h]; rfl
theorem lastS_of {l : List Int} {x : Int} {k : Nat} (h : l[k]? = some x) (hk : k = l.length - 1) : lastS l = x := by subst hk; rw [lastS, h]; rfl
theorem ends_nil {l : List Int} (h : l.length = 0) : firstS l = 0 ∧ lastS l = 0 := by
  obtain rfl := List.eq_nil_of_length_eq_zero h; exact ⟨rfl, rfl⟩
/-- what isn't below one -/
theorem from_eq {l : List Int} {p : Nat} {x : Int} (h1 : ∀ a ∈ l.take p, a < x) (h2 : ∀ a ∈ l.drop p, x ≤ a) : l.drop p = l.filter (fun a => decide (x ≤ a)) := by
  conv => rhs; rw [← List.take_append_drop p l, List.filter_append]
  rw [List.filter_eq_nil_iff.2 (fun a ha => by have := h1 a ha; simp; omega), List.nil_append, List.filter_eq_self.2 (fun a ha => by have := h2 a ha; simp; omega)]
/-- taking out the one that is there -/
theorem del_facts {now : List Int} {p : Nat} {x : Int} (hs : now.Pairwise (· < ·)) (h1 : ∀ a ∈ now.take p, a < x) (h2 : ∀ a ∈ now.drop p, x ≤ a) (hx : x ∈ now) :
    p < now.length ∧ (now.take p ++ now.drop (p + 1)).Pairwise (· < ·) ∧ (∀ a, a ∈ now.take p ++ now.drop (p + 1) ↔ a ∈ now ∧ a ≠ x) := by
  have hd : x ∈ now.drop p := by
    rcases List.mem_append.1 (by rw [List.take_append_drop p now]; exact hx : x ∈ now.take p ++ now.drop p) with g | g
    · exact absurd (h1 x g) (by omega)
    · exact g
  have hp : p < now.length := by
    rcases Nat.lt_or_ge p now.length with g | g
    · exact g
    · rw [List.drop_of_length_le g] at hd; simp at hd
  obtain ⟨y, hy⟩ : ∃ y, now[p]? = some y := ⟨_, List.getElem?_eq_getElem hp⟩
  have hdr := drop_of hy
  have hs2 : (now.drop p).Pairwise (· < ·) := hs.sublist (List.drop_sublist ..)
  rw [hdr] at hs2 h2 hd
  have h3 := List.pairwise_cons.1 hs2
  have hyx : y = x := by
    rcases List.mem_cons.1 hd with g | g
    · exact g.symm
    · have a1 := h3.1 x g; have a2 := h2 y (List.mem_cons_self ..); omega
  subst hyx
  have hall : now = now.take p ++ (y :: now.drop (p + 1)) := by rw [← hdr, List.take_append_drop]
  refine ⟨hp, ?_, fun a => ?_⟩
  · refine hs.sublist ?_
    conv => rhs; rw [hall]
    exact (List.Sublist.refl _).append (List.sublist_cons_self ..)
  · conv => rhs; rw [hall]
    simp only [List.mem_append, List.mem_cons]
    constructor
    · rintro (g | g)
      · exact ⟨.inl g, by have := h1 a g; omega⟩
      · exact ⟨.inr (.inr g), by have := h3.1 a g; omega⟩
    · rintro ⟨g | g | g, n⟩
      · exact .inl g
      · exact absurd g n
      · exact .inr g
theorem mem_step_out {now cur l : List Int} {k : Nat} {x : Int} (hm : ∀ a, a ∈ cur ↔ a ∈ now ∧ a ∉ l.take k) (hx : l[k]? = some x) (h : x ∉ cur) : ∀ a, a ∈ cur ↔ a ∈ now ∧ a ∉ l.take (k + 1) := by
  intro a; rw [take_succ_of hx, List.mem_append, List.mem_singleton]
  constructor
  · intro g; exact ⟨((hm a).1 g).1, fun q => q.elim ((hm a).1 g).2 fun e => h (e ▸ g)⟩
  · rintro ⟨g1, g2⟩; exact (hm a).2 ⟨g1, fun q => g2 (.inl q)⟩
theorem mem_step_del {now cur cur2 l : List Int} {k : Nat} {x : Int} (hm : ∀ a, a ∈ cur ↔ a ∈ now ∧ a ∉ l.take k) (hx : l[k]? = some x) (h : ∀ a, a ∈ cur2 ↔ a ∈ cur ∧ a ≠ x) : ∀ a, a ∈ cur2 ↔ a ∈ now ∧ a ∉ l.take (k + 1) := by
  intro a; rw [take_succ_of hx, List.mem_append, List.mem_singleton, h a, hm a]
  constructor
  · rintro ⟨⟨g1, g2⟩, g3⟩; exact ⟨g1, fun q => q.elim g2 g3⟩
  · rintro ⟨g1, g2⟩; exact ⟨⟨g1, fun q => g2 (.inl q)⟩, fun e => g2 (.inr e)⟩
/-- an act of NumsSets -/
structure SAct where
  kind : Int
  v : Value
  ml : List Int
def saC (a : SAct) : List Value := [iV a.kind, a.v]
theorem saC_len (a : SAct) : (saC a).length = 2 := rfl
def SActOk (R : List Hp) (a : SAct) : Prop := ((-9223372036854775808 : Int) ≤ a.kind ∧ a.kind ≤ 9223372036854775807) ∧ Ints R a.v a.ml ∧ ∀ x ∈ a.ml, (-9223372036854775808 : Int) ≤ x ∧ x ≤ 9223372036854775807
/-- the numbers of acts so far, in both words: how many answers differ -/
theorem act_step {now0 cur : List Int} {b : Bool} {x : Int} {n : Int} (hs : cur.Pairwise (· < ·)) (hn : n = if b = true then (cur.length : Int) - now0.length else (now0.length : Int) - cur.length) :
    (if decide (x ∈ cur) ≠ b then n + 1 else n) = (if b = true then ((withS x (!b) cur).length : Int) - now0.length else (now0.length : Int) - (withS x (!b) cur).length) := by
  obtain ⟨i1, i2⟩ := withS_len x cur hs
  cases b with
  | true =>
    simp only [if_true] at hn ⊢
    show _ = ((withS x false cur).length : Int) - _
    by_cases h : x ∈ cur
    · rw [if_pos h] at i1; simp [h]; omega
    · rw [if_neg h] at i1; simp [h]; omega
  | false =>
    simp only [Bool.false_eq_true, if_false] at hn ⊢
    show _ = _ - ((withS x true cur).length : Int)
    by_cases h : x ∈ cur
    · rw [if_pos h] at i2; simp [h]; omega
    · rw [if_neg h] at i2; simp [h]; omega
theorem act_mem {now0 cur l : List Int} {k : Nat} {b : Bool} {x : Int} (hm : ∀ a, a ∈ cur ↔ (if b = true then a ∈ now0 ∨ a ∈ l.take k else a ∈ now0 ∧ a ∉ l.take k)) (hx : l[k]? = some x) :
    ∀ a, a ∈ withS x (!b) cur ↔ (if b = true then a ∈ now0 ∨ a ∈ l.take (k + 1) else a ∈ now0 ∧ a ∉ l.take (k + 1)) := by
  intro a
  rw [with_mem, take_succ_of hx, List.mem_append, List.mem_singleton]
  have h := hm a
  cases b with
  | true => simp only [if_true] at h ⊢; rw [h]; constructor <;> (intro g; rcases g with g | g | g <;> simp [g])
  | false =>
    simp only [Bool.false_eq_true, if_false] at h ⊢; rw [h]
    constructor
    · rintro ⟨⟨g1, g2⟩, g3⟩; exact ⟨g1, fun q => q.elim g2 g3⟩
    · rintro ⟨g1, g2⟩; exact ⟨⟨g1, fun q => g2 (.inl q)⟩, fun e => g2 (.inr e)⟩
theorem withS_le (n : Int) : ∀ (d : Bool) (l : List Int), (withS n d l).length ≤ l.length + (if d then 0 else 1)
  | d, [] => by cases d <;> simp [withS]
  | d, x :: l => by
    have h1 := withS_le n true l
    have h2 := withS_le n false l
    simp only [if_true, Bool.false_eq_true, if_false] at h1 h2
    rw [withS]
    cases d with
    | true => by_cases e : x = n <;> simp [e] <;> omega
    | false =>
      by_cases g : n ≤ x
      · by_cases e : x = n
        · subst e; simp; omega
        · simp [e, g]; omega
      · have e : x ≠ n := by omega
        simp [e, g]; omega
theorem withS_le1 (n : Int) (d : Bool) (l : List Int) : (withS n d l).length ≤ l.length + 1 := by
  have := withS_le n d l; split at this <;> omega
theorem first_mem {wl l : List Int} {k : Nat} {x : Int} (hm : ∀ a, a ∈ wl ↔ a ∈ l.take k) (hx : l[k]? = some x) : ∀ a, a ∈ withS x (!true) wl ↔ a ∈ l.take (k + 1) := by
  intro a; rw [with_mem, if_pos rfl, take_succ_of hx, List.mem_append, List.mem_singleton, hm a]; exact Or.comm
def allIn (l cur : List Int) : Bool := decide (∀ a ∈ l, a ∈ cur)
theorem all_step {ask cur : List Int} {k : Nat} {x : Int} {al : Bool} (h : al = allIn (ask.take k) cur) (hx : ask[k]? = some x) : (al && decide (x ∈ cur)) = allIn (ask.take (k + 1)) cur := by
  rw [h, take_succ_of hx]
  unfold allIn
  rw [← Bool.decide_and]
  refine decide_eq_decide.2 ?_
  simp only [List.mem_append, List.mem_singleton]
  constructor
  · rintro ⟨g1, g2⟩ a (g | rfl)
    · exact g1 a g
    · exact g2
  · intro g; exact ⟨fun a ha => g a (.inl ha), g x (.inr rfl)⟩
theorem neq_of {a b : Bool} (h : (!(a == b)) = true) : a ≠ b := by simpa using h
theorem eq_of {a b : Bool} (h : (!(a == b)) = false) : ¬ a ≠ b := by simpa using h
theorem len_pos_b {l : List Int} : decide (0 < ((l.length : Nat) : Int)) = decide (0 < l.length) := decide_eq_decide.2 (by omega)
theorem filt_step {cur sm : List Int} {k : Nat} {x fr : Int} (h : sm = (cur.take k).filter (fun a => decide (fr ≤ a))) (hx : cur[k]? = some x) : (if fr ≤ x then sm ++ [x] else sm) = (cur.take (k + 1)).filter (fun a => decide (fr ≤ a)) := by
  rw [take_succ_of hx, List.filter_append, ← h]; by_cases g : fr ≤ x <;> simp [g]
theorem act_end_add {now0 cur now' l : List Int} (h1 : cur.Pairwise (· < ·)) (h2 : now'.Pairwise (· < ·)) (hm : ∀ a, a ∈ cur ↔ (if true = true then a ∈ now0 ∨ a ∈ l.take l.length else a ∈ now0 ∧ a ∉ l.take l.length)) (hm2 : ∀ a, a ∈ now' ↔ a ∈ now0 ∨ a ∈ l) : cur = now' :=
  sorted_eq h1 h2 fun a => by rw [hm, hm2, if_pos rfl, List.take_length]
theorem act_end_drop {now0 cur now' l : List Int} (h1 : cur.Pairwise (· < ·)) (h2 : now'.Pairwise (· < ·)) (hm : ∀ a, a ∈ cur ↔ (if false = true then a ∈ now0 ∨ a ∈ l.take l.length else a ∈ now0 ∧ a ∉ l.take l.length)) (hm2 : ∀ a, a ∈ now' ↔ a ∈ now0 ∧ a ∉ l) : cur = now' :=
  sorted_eq h1 h2 fun a => by rw [hm, hm2, if_neg (by decide), List.take_length]
end Go.Q
namespace Go.Q
structure Pw where
  off : Bool
  armed : Bool
  left : Int
  uses : Int
def useS (p : Pw) : Pw := if p.off = true then p else ⟨p.armed && decide (p.left = 0), p.armed, p.left - 1, p.uses + 1⟩
def useB (p : Pw) : Bool := !p.off && !(useS p).off
def backS (p : Pw) : Pw := ⟨false, false, p.left, p.uses⟩
def armS (p : Pw) (n : Int) : Pw := ⟨p.off, true, max n 0, p.uses⟩
def PwOk (p : Pw) : Prop := 0 ≤ p.uses ∧ p.uses ≤ 4000000000000000000 ∧ -4000000000000000000 ≤ p.left ∧ p.left ≤ 9223372036854775807
def blankS : Bs := List.replicate 64 0
def fillS (s : Bs) : Bs := s ++ blankS.drop s.length
theorem blank_len : blankS.length = 64 := rfl
theorem fill_len {s : Bs} (h : s.length ≤ 64) : (fillS s).length = 64 := by unfold fillS; rw [List.length_append, List.length_drop, blank_len]; omega
def settleS (lo : List (Int × Bs)) (la : List Bs) (keep : List Int) : List Bs := keep.foldl (fun acc n => match getB lo n with | some s => acc.set n.toNat s | none => acc) la
theorem settle_len (lo : List (Int × Bs)) : ∀ (keep : List Int) (la : List Bs), (settleS lo la keep).length = la.length
  | [], _ => rfl
  | n :: keep, la => by
    show (settleS lo _ keep).length = _
    rw [settle_len lo keep]
    show (match getB lo n with | some s => la.set n.toNat s | none => la).length = _
    split <;> simp
theorem settle_step {lo : List (Int × Bs)} {la : List Bs} {keep : List Int} {k : Nat} {n : Int} (h : keep[k]? = some n) : settleS lo la (keep.take (k + 1)) = match getB lo n with | some s => (settleS lo la (keep.take k)).set n.toNat s | none => settleS lo la (keep.take k) := by
  unfold settleS; rw [take_succ_of h, List.foldl_append]; rfl
theorem settle_yes {lo : List (Int × Bs)} {la : List Bs} {keep : List Int} {k : Nat} {n : Int} (h : keep[k]? = some n) (g : (getB lo n).isSome = true) : settleS lo la (keep.take (k + 1)) = (settleS lo la (keep.take k)).set n.toNat ((getB lo n).getD []) := by
  rw [settle_step h]
  cases e : getB lo n with
  | none => rw [e] at g; cases g
  | some s => rfl
theorem settle_no {lo : List (Int × Bs)} {la : List Bs} {keep : List Int} {k : Nat} {n : Int} (h : keep[k]? = some n) (g : (getB lo n).isSome = false) : settleS lo la (keep.take (k + 1)) = settleS lo la (keep.take k) := by
  rw [settle_step h]
  cases e : getB lo n with
  | none => rfl
  | some s => rw [e] at g; cases g
def inS (n : Int) (k : Nat) : Prop := 0 ≤ n ∧ n < (k : Int)
instance (n : Int) (k : Nat) : Decidable (inS n k) := inferInstanceAs (Decidable (_ ∧ _))
/-- what is loose has a place, and a sector's bytes -/
def LoOk (lo : List (Int × Bs)) (k : Nat) : Prop := ∀ p ∈ lo, inS p.1 k ∧ p.2.length = 64
theorem LoOk.get {lo : List (Int × Bs)} {k : Nat} (h : LoOk lo k) {n : Int} (g : (getB lo n).isSome = true) : inS n k := by
  obtain ⟨p, hp, rfl⟩ := List.mem_map.1 (getB_mem.1 g)
  exact (h p hp).1
def keysS (lo : List (Int × Bs)) : List Int := (lo.map (·.1)).mergeSort (fun x y => decide (x ≤ y))
def readS (p : Pw) (la : List Bs) (lo : List (Int × Bs)) (n : Int) : Bs := if p.off = true then [] else if inS n la.length then (if (getB lo n).isSome = true then (getB lo n).getD [] else (la[n.toNat]?).getD []) else []
def readE (p : Pw) (la : List Bs) (n : Int) : Int := if p.off = true then 6 else if inS n la.length then 0 else 1
def writeE (p : Pw) (k : Nat) (n : Int) (s : Bs) : Int := if useB p = true then (if s.length ≤ 64 ∧ inS n k then 0 else 1) else 6
def writeS (p : Pw) (k : Nat) (lo : List (Int × Bs)) (n : Int) (s : Bs) : List (Int × Bs) := if useB p = true ∧ s.length ≤ 64 ∧ inS n k then putB lo n (fillS s) else lo
def syncE (p : Pw) : Int := if useB p = true then 0 else 6
def syncA (p : Pw) (la : List Bs) (lo : List (Int × Bs)) : List Bs := if useB p = true then settleS lo la (keysS lo) else la
def syncO (p : Pw) (lo : List (Int × Bs)) : List (Int × Bs) := if useB p = true then [] else lo
def lastsS (la : List Bs) (n : Int) : Bs := if inS n la.length then (la[n.toNat]?).getD [] else []
def putE (k : Nat) (n : Int) (s : Bs) : Int := if s.length ≤ 64 ∧ inS n k then 0 else 1
def putA (la : List Bs) (n : Int) (s : Bs) : List Bs := if s.length ≤ 64 ∧ inS n la.length then la.set n.toNat (fillS s) else la
def putO (k : Nat) (lo : List (Int × Bs)) (n : Int) (s : Bs) : List (Int × Bs) := if s.length ≤ 64 ∧ inS n k then delB lo n else lo
/-- two heaplets and more, told as one -/
theorem Has.open3 {E w : World} {a b c : List Hp} {ss : List (List Hp)} (H : Has E w ((a ++ (b ++ c)) :: ss)) : Has E w (a :: b :: c :: ss) := by
  unfold Has at *; simpa [List.append_assoc] using H
theorem Has.close3 {E w : World} {a b c : List Hp} {ss : List (List Hp)} (H : Has E w (a :: b :: c :: ss)) : Has E w ((a ++ (b ++ c)) :: ss) := by
  unfold Has at *; simpa [List.append_assoc] using H
theorem Has.all5 {E w : World} {a0 a1 a2 a3 a4 : List Hp} {ss : List (List Hp)} (H : Has E w (a0 :: a1 :: a2 :: a3 :: a4 :: ss)) : Has E w [a0, a1, a2, a3, a4, ss.flatten] := by unfold Has at *; simpa using H
theorem Has.of_all5 {E w : World} {a0 a1 a2 a3 a4 : List Hp} {ss : List (List Hp)} (H : Has E w [a0, a1, a2, a3, a4, ss.flatten]) : Has E w (a0 :: a1 :: a2 :: a3 :: a4 :: ss) := by unfold Has at *; simpa using H
theorem Has.all6 {E w : World} {a0 a1 a2 a3 a4 a5 : List Hp} {ss : List (List Hp)} (H : Has E w (a0 :: a1 :: a2 :: a3 :: a4 :: a5 :: ss)) : Has E w [a0, a1, a2, a3, a4, a5, ss.flatten] := by unfold Has at *; simpa using H
theorem Has.of_all6 {E w : World} {a0 a1 a2 a3 a4 a5 : List Hp} {ss : List (List Hp)} (H : Has E w [a0, a1, a2, a3, a4, a5, ss.flatten]) : Has E w (a0 :: a1 :: a2 :: a3 :: a4 :: a5 :: ss) := by unfold Has at *; simpa using H
theorem Has.all7 {E w : World} {a0 a1 a2 a3 a4 a5 a6 : List Hp} {ss : List (List Hp)} (H : Has E w (a0 :: a1 :: a2 :: a3 :: a4 :: a5 :: a6 :: ss)) : Has E w [a0, a1, a2, a3, a4, a5, a6, ss.flatten] := by unfold Has at *; simpa using H
theorem Has.of_all7 {E w : World} {a0 a1 a2 a3 a4 a5 a6 : List Hp} {ss : List (List Hp)} (H : Has E w [a0, a1, a2, a3, a4, a5, a6, ss.flatten]) : Has E w (a0 :: a1 :: a2 :: a3 :: a4 :: a5 :: a6 :: ss) := by unfold Has at *; simpa using H
theorem Has.all8 {E w : World} {a0 a1 a2 a3 a4 a5 a6 a7 : List Hp} {ss : List (List Hp)} (H : Has E w (a0 :: a1 :: a2 :: a3 :: a4 :: a5 :: a6 :: a7 :: ss)) : Has E w [a0, a1, a2, a3, a4, a5, a6, a7, ss.flatten] := by unfold Has at *; simpa using H
theorem Has.of_all8 {E w : World} {a0 a1 a2 a3 a4 a5 a6 a7 : List Hp} {ss : List (List Hp)} (H : Has E w [a0, a1, a2, a3, a4, a5, a6, a7, ss.flatten]) : Has E w (a0 :: a1 :: a2 :: a3 :: a4 :: a5 :: a6 :: a7 :: ss) := by unfold Has at *; simpa using H
theorem Has.all9 {E w : World} {a0 a1 a2 a3 a4 a5 a6 a7 a8 : List Hp} {ss : List (List Hp)} (H : Has E w (a0 :: a1 :: a2 :: a3 :: a4 :: a5 :: a6 :: a7 :: a8 :: ss)) : Has E w [a0, a1, a2, a3, a4, a5, a6, a7, a8, ss.flatten] := by unfold Has at *; simpa using H
theorem Has.of_all9 {E w : World} {a0 a1 a2 a3 a4 a5 a6 a7 a8 : List Hp} {ss : List (List Hp)} (H : Has E w [a0, a1, a2, a3, a4, a5, a6, a7, a8, ss.flatten]) : Has E w (a0 :: a1 :: a2 :: a3 :: a4 :: a5 :: a6 :: a7 :: a8 :: ss) := by unfold Has at *; simpa using H
theorem Has.all10 {E w : World} {a0 a1 a2 a3 a4 a5 a6 a7 a8 a9 : List Hp} {ss : List (List Hp)} (H : Has E w (a0 :: a1 :: a2 :: a3 :: a4 :: a5 :: a6 :: a7 :: a8 :: a9 :: ss)) : Has E w [a0, a1, a2, a3, a4, a5, a6, a7, a8, a9, ss.flatten] := by unfold Has at *; simpa using H
theorem Has.of_all10 {E w : World} {a0 a1 a2 a3 a4 a5 a6 a7 a8 a9 : List Hp} {ss : List (List Hp)} (H : Has E w [a0, a1, a2, a3, a4, a5, a6, a7, a8, a9, ss.flatten]) : Has E w (a0 :: a1 :: a2 :: a3 :: a4 :: a5 :: a6 :: a7 :: a8 :: a9 :: ss) := by unfold Has at *; simpa using H
theorem Has.all11 {E w : World} {a0 a1 a2 a3 a4 a5 a6 a7 a8 a9 a10 : List Hp} {ss : List (List Hp)} (H : Has E w (a0 :: a1 :: a2 :: a3 :: a4 :: a5 :: a6 :: a7 :: a8 :: a9 :: a10 :: ss)) : Has E w [a0, a1, a2, a3, a4, a5, a6, a7, a8, a9, a10, ss.flatten] := by unfold Has at *; simpa using H
theorem Has.of_all11 {E w : World} {a0 a1 a2 a3 a4 a5 a6 a7 a8 a9 a10 : List Hp} {ss : List (List Hp)} (H : Has E w [a0, a1, a2, a3, a4, a5, a6, a7, a8, a9, a10, ss.flatten]) : Has E w (a0 :: a1 :: a2 :: a3 :: a4 :: a5 :: a6 :: a7 :: a8 :: a9 :: a10 :: ss) := by unfold Has at *; simpa using H
theorem Has.all12 {E w : World} {a0 a1 a2 a3 a4 a5 a6 a7 a8 a9 a10 a11 : List Hp} {ss : List (List Hp)} (H : Has E w (a0 :: a1 :: a2 :: a3 :: a4 :: a5 :: a6 :: a7 :: a8 :: a9 :: a10 :: a11 :: ss)) : Has E w [a0, a1, a2, a3, a4, a5, a6, a7, a8, a9, a10, a11, ss.flatten] := by unfold Has at *; simpa using H
theorem Has.of_all12 {E w : World} {a0 a1 a2 a3 a4 a5 a6 a7 a8 a9 a10 a11 : List Hp} {ss : List (List Hp)} (H : Has E w [a0, a1, a2, a3, a4, a5, a6, a7, a8, a9, a10, a11, ss.flatten]) : Has E w (a0 :: a1 :: a2 :: a3 :: a4 :: a5 :: a6 :: a7 :: a8 :: a9 :: a10 :: a11 :: ss) := by unfold Has at *; simpa using H
end Go.Q
namespace Go.Q
open Go.Proofs
set_option linter.unusedVariables false
set_option maxRecDepth 100000
attribute [local irreducible] wpList OK Code.wp
set_option maxHeartbeats 4000000 in
theorem use_c {E w : World} {R : List Hp} {pb : Nat} {p : Pw} (hH : Has E w [[Hp.one pb (.cells #[(.bool p.off), (.bool p.armed), (.int .i64 p.left), (.int .i64 p.uses)] 78 (0, 0))], R]) (hp : PwOk p) :
    Calls Tryz.prog 77 #[(.pointer (some ⟨pb, 0, none⟩))] w fun e w' => e = .returned (.bool (useB p)) ∧ Has E w' [[Hp.one pb (.cells #[(.bool (useS p).off), (.bool (useS p).armed), (.int .i64 (useS p).left), (.int .i64 (useS p).uses)] 78 (0, 0))], R] := by
  obtain ⟨hu1, hu2, hu3, hu4⟩ := hp
  refine c_enter (args := [(.pointer (some ⟨pb, 0, none⟩))]) Tryz.func77 rfl Tryz.ntmps77 (by simp) ?_
  refine wp_seq_k fun K1 hK1 => ?_
  refine c_region ?_
  refine s_op (o_assign (v := (.bool false)) rfl ?_)
  refine s_nil ?_
  refine t_norm (hK1 _ _ ?_)
  refine wp_seq_k fun K2 hK2 => ?_
  refine wp_seq_k fun K3 hK3 => ?_
  refine c_region ?_
  refine s_op (o_move (v := (.pointer (some ⟨pb, 0, none⟩))) rfl ?_)
  refine s_op (o_nilCheck rfl ?_)
  refine s_op (o_fieldAddr (k := 0) (fun _ => by kernel_rfl) rfl ?_)
  refine s_op (o_load1 (v := (.bool p.off)) Tryz.underlying4 rfl rfl hH (seg_sub 0 rfl) (CellsAt.one rfl) ?_)
  refine s_nil ?_
  refine t_norm (hK3 _ _ ?_)
  refine c_condb rfl (fun h4 => ?_) (fun h4 => ?_)
  · -- p.off
    refine wp_seq_k fun K5 hK5 => ?_
    refine c_region ?_
    refine s_op (o_assign (v := (.bool false)) rfl ?_)
    refine s_nil ?_
    refine t_norm (hK5 _ _ ?_)
    refine wp_ret ?_
    refine t_ret (c_ret1 Tryz.results77  (v := (.bool false)) rfl ?_)
    have e_ : useS p = p := by simp [useS, h4]
    exact ⟨by simp [useB, h4], by rw [e_]; exact hH⟩
  · -- not: p.off
    refine wp_skip ?_
    refine t_norm (hK2 _ _ ?_)
    refine wp_seq_k fun K6 hK6 => ?_
    refine c_region ?_
    refine s_op (o_move (v := (.pointer (some ⟨pb, 0, none⟩))) rfl ?_)
    refine s_op (o_nilCheck rfl ?_)
    refine s_op (o_fieldAddr (k := 3) (fun _ => by kernel_rfl) rfl ?_)
    refine s_op (o_load1 (v := (.int .i64 p.uses)) Tryz.underlying3 rfl rfl hH (seg_sub 0 rfl) (CellsAt.one rfl) ?_)
    refine s_op (o_add (a := p.uses) (b := 1) rfl rfl (w64 (by omega) (by omega)) ?_)
    refine s_op (o_nilCheck rfl ?_)
    refine s_op (o_fieldAddr (k := 3) (fun _ => by kernel_rfl) rfl ?_)
    refine s_eff (o_store1 (c' := #[(.bool p.off), (.bool p.armed), (.int .i64 p.left), (.int .i64 (p.uses + 1))]) ti3 rfl rfl rfl (by simp) rfl (hH.front 0 rfl) fun w7 hH8 => ?_)
    refine s_nil ?_
    refine t_norm (hK6 _ _ ?_)
    refine wp_seq_k fun K9 hK9 => ?_
    refine c_region ?_
    refine s_op (o_move (v := (.pointer (some ⟨pb, 0, none⟩))) rfl ?_)
    refine s_op (o_move (v := (.pointer (some ⟨pb, 0, none⟩))) rfl ?_)
    refine s_op (o_nilCheck rfl ?_)
    refine s_op (o_fieldAddr (k := 1) (fun _ => by kernel_rfl) rfl ?_)
    refine s_op (o_load1 (v := (.bool p.armed)) Tryz.underlying4 rfl rfl hH8 (seg_sub 0 rfl) (CellsAt.one rfl) ?_)
    refine s_op (o_move (v := (.bool p.armed)) rfl ?_)
    rcases Bool.eq_false_or_eq_true p.armed with h10 | h10
    · -- p.armed
      refine s_on 19 rfl (congrArg Value.bool h10) (o_move (v := (.pointer (some ⟨pb, 0, none⟩))) rfl ?_)
      refine s_on 19 rfl (congrArg Value.bool h10) (o_nilCheck rfl ?_)
      refine s_on 19 rfl (congrArg Value.bool h10) (o_fieldAddr (k := 2) (fun _ => by kernel_rfl) rfl ?_)
      refine s_on 19 rfl (congrArg Value.bool h10) (o_load1 (v := (.int .i64 p.left)) Tryz.underlying3 rfl rfl hH8 (seg_sub 0 rfl) (CellsAt.one rfl) ?_)
      refine s_on 19 rfl (congrArg Value.bool h10) (o_eql (a := p.left) (b := 0) rfl rfl ?_)
      refine s_op (o_pick_t (u := (.bool (decide (p.left = 0)))) ((rfl : _ = _).trans (congrArg Value.bool h10)) rfl ?_)
      refine s_op (o_nilCheck rfl ?_)
      refine s_op (o_fieldAddr (k := 0) (fun _ => by kernel_rfl) rfl ?_)
      refine s_eff (o_store1 (c' := #[(.bool (decide (p.left = 0))), (.bool p.armed), (.int .i64 p.left), (.int .i64 (p.uses + 1))]) ti4 rfl rfl rfl (by simp) rfl (hH8.front 0 rfl) fun w11 hH12 => ?_)
      refine s_nil ?_
      refine t_norm (hK9 _ _ ?_)
      refine wp_seq_k fun K13 hK13 => ?_
      refine c_region ?_
      refine s_op (o_move (v := (.pointer (some ⟨pb, 0, none⟩))) rfl ?_)
      refine s_op (o_nilCheck rfl ?_)
      refine s_op (o_fieldAddr (k := 2) (fun _ => by kernel_rfl) rfl ?_)
      refine s_op (o_load1 (v := (.int .i64 p.left)) Tryz.underlying3 rfl rfl hH12 (seg_sub 0 rfl) (CellsAt.one rfl) ?_)
      refine s_op (o_sub (a := p.left) (b := 1) rfl rfl (w64 (by omega) (by omega)) ?_)
      refine s_op (o_nilCheck rfl ?_)
      refine s_op (o_fieldAddr (k := 2) (fun _ => by kernel_rfl) rfl ?_)
      refine s_eff (o_store1 (c' := #[(.bool (decide (p.left = 0))), (.bool p.armed), (.int .i64 (p.left - 1)), (.int .i64 (p.uses + 1))]) ti3 rfl rfl rfl (by simp) rfl (hH12.front 0 rfl) fun w14 hH15 => ?_)
      refine s_nil ?_
      refine t_norm (hK13 _ _ ?_)
      refine wp_seq_k fun K16 hK16 => ?_
      refine c_region ?_
      refine s_op (o_move (v := (.pointer (some ⟨pb, 0, none⟩))) rfl ?_)
      refine s_op (o_nilCheck rfl ?_)
      refine s_op (o_fieldAddr (k := 0) (fun _ => by kernel_rfl) rfl ?_)
      refine s_op (o_load1 (v := (.bool (decide (p.left = 0)))) Tryz.underlying4 rfl rfl hH15 (seg_sub 0 rfl) (CellsAt.one rfl) ?_)
      refine s_op (o_not2 (b := decide (p.left = 0)) (b' := decide (¬ (p.left = 0))) rfl not_dec ?_)
      refine s_op (o_assign (v := (.bool (decide (¬ (p.left = 0))))) rfl ?_)
      refine s_nil ?_
      refine t_norm (hK16 _ _ ?_)
      refine wp_ret ?_
      refine c_ret1 Tryz.results77  (v := (.bool (decide (¬ (p.left = 0))))) rfl ?_
      have e_ : useS p = ⟨decide (p.left = 0), p.armed, p.left - 1, p.uses + 1⟩ := by simp [useS, h4, h10]
      exact ⟨by simp [useB, e_, h4, h10], by rw [e_]; exact hH15⟩
    · -- not: p.armed
      refine s_off (b' := false) 19 rfl (congrArg Value.bool h10) rfl ?_
      refine s_off (b' := false) 19 rfl (congrArg Value.bool h10) rfl ?_
      refine s_off (b' := false) 19 rfl (congrArg Value.bool h10) rfl ?_
      refine s_off (b' := false) 19 rfl (congrArg Value.bool h10) rfl ?_
      refine s_off (b' := false) 19 rfl (congrArg Value.bool h10) rfl ?_
      refine s_op (o_pick_f (u := (.bool false)) ((rfl : _ = _).trans (congrArg Value.bool h10)) rfl ?_)
      refine s_op (o_nilCheck rfl ?_)
      refine s_op (o_fieldAddr (k := 0) (fun _ => by kernel_rfl) rfl ?_)
      refine s_eff (o_store1 (c' := #[(.bool false), (.bool p.armed), (.int .i64 p.left), (.int .i64 (p.uses + 1))]) ti4 rfl rfl rfl (by simp) rfl (hH8.front 0 rfl) fun w17 hH18 => ?_)
      refine s_nil ?_
      refine t_norm (hK9 _ _ ?_)
      refine wp_seq_k fun K19 hK19 => ?_
      refine c_region ?_
      refine s_op (o_move (v := (.pointer (some ⟨pb, 0, none⟩))) rfl ?_)
      refine s_op (o_nilCheck rfl ?_)
      refine s_op (o_fieldAddr (k := 2) (fun _ => by kernel_rfl) rfl ?_)
      refine s_op (o_load1 (v := (.int .i64 p.left)) Tryz.underlying3 rfl rfl hH18 (seg_sub 0 rfl) (CellsAt.one rfl) ?_)
      refine s_op (o_sub (a := p.left) (b := 1) rfl rfl (w64 (by omega) (by omega)) ?_)
      refine s_op (o_nilCheck rfl ?_)
      refine s_op (o_fieldAddr (k := 2) (fun _ => by kernel_rfl) rfl ?_)
      refine s_eff (o_store1 (c' := #[(.bool false), (.bool p.armed), (.int .i64 (p.left - 1)), (.int .i64 (p.uses + 1))]) ti3 rfl rfl rfl (by simp) rfl (hH18.front 0 rfl) fun w20 hH21 => ?_)
      refine s_nil ?_
      refine t_norm (hK19 _ _ ?_)
      refine wp_seq_k fun K22 hK22 => ?_
      refine c_region ?_
      refine s_op (o_move (v := (.pointer (some ⟨pb, 0, none⟩))) rfl ?_)
      refine s_op (o_nilCheck rfl ?_)
      refine s_op (o_fieldAddr (k := 0) (fun _ => by kernel_rfl) rfl ?_)
      refine s_op (o_load1 (v := (.bool false)) Tryz.underlying4 rfl rfl hH21 (seg_sub 0 rfl) (CellsAt.one rfl) ?_)
      refine s_op (o_not rfl ?_)
      refine s_op (o_assign (v := (.bool true)) rfl ?_)
      refine s_nil ?_
      refine t_norm (hK22 _ _ ?_)
      refine wp_ret ?_
      refine c_ret1 Tryz.results77  (v := (.bool true)) rfl ?_
      have e_ : useS p = ⟨false, p.armed, p.left - 1, p.uses + 1⟩ := by simp [useS, h4, h10]
      exact ⟨by simp [useB, e_, h4, h10], by rw [e_]; exact hH21⟩
set_option maxHeartbeats 4000000 in
theorem pon_c {E w : World} {R : List Hp} {pb : Nat} {p : Pw} (hH : Has E w [[Hp.one pb (.cells #[(.bool p.off), (.bool p.armed), (.int .i64 p.left), (.int .i64 p.uses)] 78 (0, 0))], R]) :
    Calls Tryz.prog 69 #[(.pointer (some ⟨pb, 0, none⟩))] w fun e w' => e = .returned (.bool (!p.off)) ∧ Has E w' [[Hp.one pb (.cells #[(.bool p.off), (.bool p.armed), (.int .i64 p.left), (.int .i64 p.uses)] 78 (0, 0))], R] := by
  refine c_enter (args := [(.pointer (some ⟨pb, 0, none⟩))]) Tryz.func69 rfl Tryz.ntmps69 (by simp) ?_
  refine wp_seq_k fun K1 hK1 => ?_
  refine c_region ?_
  refine s_op (o_assign (v := (.bool false)) rfl ?_)
  refine s_nil ?_
  refine t_norm (hK1 _ _ ?_)
  refine wp_seq_k fun K2 hK2 => ?_
  refine c_region ?_
  refine s_op (o_move (v := (.pointer (some ⟨pb, 0, none⟩))) rfl ?_)
  refine s_op (o_pnnil (p := some _) Tryz.underlying76 rfl rfl ?_)
  refine s_op (o_move (v := (.bool true)) rfl ?_)
  refine s_on 5 rfl rfl (o_move (v := (.pointer (some ⟨pb, 0, none⟩))) rfl ?_)
  refine s_on 5 rfl rfl (o_nilCheck rfl ?_)
  refine s_on 5 rfl rfl (o_fieldAddr (k := 0) (fun _ => by kernel_rfl) rfl ?_)
  refine s_on 5 rfl rfl (o_load1 (v := (.bool p.off)) Tryz.underlying4 rfl rfl hH (seg_sub 0 rfl) (CellsAt.one rfl) ?_)
  refine s_on 5 rfl rfl (o_not rfl ?_)
  refine s_op (o_pick_t (u := (.bool (!p.off))) rfl rfl ?_)
  refine s_op (o_assign (v := (.bool (!p.off))) rfl ?_)
  refine s_nil ?_
  refine t_norm (hK2 _ _ ?_)
  refine wp_ret ?_
  refine c_ret1 Tryz.results69  (v := (.bool (!p.off))) rfl ?_
  exact ⟨rfl, hH⟩
end Go.Q
