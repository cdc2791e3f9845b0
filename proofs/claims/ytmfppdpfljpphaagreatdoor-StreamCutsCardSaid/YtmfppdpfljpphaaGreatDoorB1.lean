/-
  Parts of a walk: what functions of the program compute, each told by a theorem (QA, QB, QNdup, QC, QD, QE, QF, QG, QH, QNums, QI, QJ, QX, QOwnF, QRec, QSets, QK, QKV, QDev, QPage, QPage2, QCrc, QU, QW, QBurst, QM, QRet, QFrame, QFrame2, QPageB, QHeadB, QDevK, QIn, QDevM, QArea, QHeadS, QDv).
-/
import Derived.Tactics
import Derived.Orders
import Derived.Laws.Slices
import Derived.Laws.Append
import Derived.Laws.Rows
import Derived.Laws.CopyRow
import Derived.Laws.AppendOwn
import Derived.Laws.MakeOwn
import Derived.Laws.BytesString
import Derived.Laws.Pointers
import Derived.Laws.Concat
import Derived.RowKit3
import Derived.Great.BuildSlice
import Derived.Laws.OwnMore
import Derived.KernelRfl
import Derived.Maps.AppendAt
import Derived.Lib.Overlaps
import Derived.MapKept
import Derived.Laws.IdiomStrings
set_option linter.unusedVariables false
set_option linter.unusedSimpArgs false
set_option maxHeartbeats 4000000
set_option linter.unnecessarySimpa false
namespace Go.Q
theorem cF {p : Prop} [Decidable p] (h : ¬ p) : Value.bool (decide p) = Value.bool false := congrArg Value.bool (decide_eq_false h)
theorem cT {p : Prop} [Decidable p] (h : p) : Value.bool (decide p) = Value.bool true := congrArg Value.bool (decide_eq_true h)
abbrev Hp := Nat → Option Obj
def Hp.sub (h : Hp) (w : World) : Prop := ∀ b o, h b = some o → w.heap[b]? = some o
def Hp.dis (h k : Hp) : Prop := ∀ b, h b = none ∨ k b = none
def Hp.one (b : Nat) (o : Obj) : Hp := fun x => if x = b then some o else none
def Hp.of (w : World) : Hp := fun b => w.heap[b]?
theorem Hp.dis.symm {h k : Hp} (d : Hp.dis h k) : Hp.dis k h := fun b => (d b).symm
theorem Hp.one_at (b : Nat) (o : Obj) : Hp.one b o b = some o := by simp [Hp.one]
theorem Hp.one_some {b x : Nat} {o o' : Obj} (h : Hp.one b o x = some o') : x = b ∧ o' = o := by
 unfold Hp.one at h; split at h
 · exact ⟨by assumption, by simpa using h.symm⟩
 · simp at h
structure Has0 (E w : World) (hs : List Hp) : Prop where
 os : w.os = E.os
 tape : w.tape = E.tape
 output : w.output = E.output
 dj : hs.Pairwise Hp.dis
 sub : ∀ h ∈ hs, Hp.sub h w
def Has (E w : World) (ss : List (List Hp)) : Prop := Has0 E w ss.flatten
theorem Has0.at {E w : World} {hs : List Hp} (H : Has0 E w hs) {h : Hp} (hh : h ∈ hs) {b : Nat} {o : Obj} (hb : h b = some o) : w.heap[b]? = some o := H.sub h hh b o hb
theorem Has0.lt {E w : World} {hs : List Hp} (H : Has0 E w hs) {h : Hp} (hh : h ∈ hs) {b : Nat} {o : Obj} (hb : h b = some o) : b < w.heap.size :=
 (Array.getElem?_eq_some_iff.1 (H.at hh hb)).1
theorem Has0.weak {E w : World} {hs ks : List Hp} (H : Has0 E w hs) (h : ks.Sublist hs) : Has0 E w ks :=
 ⟨H.os, H.tape, H.output, H.dj.sublist h, fun k hk => H.sub k (h.subset hk)⟩
theorem Has0.perm {E w : World} {hs ks : List Hp} (H : Has0 E w hs) (h : ks.Perm hs) : Has0 E w ks :=
 ⟨H.os, H.tape, H.output, (h.pairwise_iff (fun d => Hp.dis.symm d)).2 H.dj, fun k hk => H.sub k (h.subset hk)⟩
theorem Has0.drew {E w : World} {hs : List Hp} (H : Has0 E w hs) (n : Nat) : Has0 E { w with drawn := n } hs := ⟨H.os, H.tape, H.output, H.dj, H.sub⟩
theorem Has0.alloc {E w : World} {hs : List Hp} (H : Has0 E w hs) (o : Obj) : Has0 E { w with heap := w.heap.push o } (Hp.one w.heap.size o :: hs) := by
 refine ⟨H.os, H.tape, H.output, ?_, ?_⟩
 ·
  refine List.pairwise_cons.2 ⟨fun k hk b => ?_, H.dj⟩
  cases hkb : k b with
  | none => exact .inr rfl
  | some o' =>
   have := H.lt hk hkb
   refine .inl ?_
   unfold Hp.one; rw [if_neg (by omega)]
 ·
  intro k hk b o' hb
  show (w.heap.push o)[b]? = some o'
  rcases List.mem_cons.1 hk with rfl | hk
  ·
   obtain ⟨rfl, rfl⟩ := Hp.one_some hb
   simp
  ·
   rw [Array.getElem?_push, if_neg (by have := H.lt hk hb; omega)]
   exact H.at hk hb
theorem Has0.write {E w w' : World} {an an' hs : List Hp} (H : Has0 E w (an ++ hs)) (os : w'.os = w.os) (tape : w'.tape = w.tape) (output : w'.output = w.output)
  (hdj : an'.Pairwise Hp.dis) (hdom : ∀ b, (∀ h ∈ an, h b = none) → (∀ h ∈ an', h b = none) ∨ w.heap.size ≤ b) (hnew : ∀ h ∈ an', Hp.sub h w')
  (hkeep : ∀ b, b < w.heap.size → (∀ h ∈ an, h b = none) → w'.heap[b]? = w.heap[b]?) : Has0 E w' (an' ++ hs) := by
 have hd := List.pairwise_append.1 H.dj
 have mr : ∀ k ∈ hs, k ∈ an ++ hs := fun k hk => List.mem_append_right _ hk
 have hno : ∀ k ∈ hs, ∀ b o, k b = some o → ∀ h ∈ an, h b = none := fun k hk b o hb h hh => by
  rcases hd.2.2 h hh k hk b with e | e
  · exact e
  · rw [hb] at e; cases e
 refine ⟨os.trans H.os, tape.trans H.tape, output.trans H.output, List.pairwise_append.2 ⟨hdj, hd.2.1, fun h hh k hk b => ?_⟩, ?_⟩
 ·
  cases hkb : k b with
  | none => exact .inr rfl
  | some o =>
   rcases hdom b (hno k hk b o hkb) with e | e
   · exact .inl (e h hh)
   · have := H.lt (mr k hk) hkb; omega
 ·
  intro k hk b o hb
  rcases List.mem_append.1 hk with hk | hk
  · exact hnew k hk b o hb
  · rw [hkeep b (H.lt (mr k hk) hb) (hno k hk b o hb)]; exact H.at (mr k hk) hb
theorem Has.start (w : World) : Has w w [[Hp.of w]] := ⟨rfl, rfl, rfl, by simp, by
 intro h hh; simp at hh; subst hh; exact fun b o h => h⟩
theorem Has.drew {E w : World} {ss : List (List Hp)} (H : Has E w ss) (n : Nat) : Has E { w with drawn := n } ss := Has0.drew H n
theorem Has.alloc {E w : World} {ss : List (List Hp)} (H : Has E w ss) (o : Obj) : Has E { w with heap := w.heap.push o } ([Hp.one w.heap.size o] :: ss) := Has0.alloc H o
theorem Has.drop {E w : World} {s : List Hp} {ss : List (List Hp)} (H : Has E w (s :: ss)) : Has E w ss := Has0.weak H (by simp)
theorem sublist_flatten {ts ss : List (List Hp)} (h : ts.Sublist ss) : ts.flatten.Sublist ss.flatten := by
 induction h with
 | slnil => exact .refl _
 | cons a _ ih => simp only [List.flatten_cons]; exact ih.trans (List.sublist_append_right _ _)
 | cons_cons a _ ih => simp only [List.flatten_cons]; exact List.Sublist.append (.refl _) ih
theorem Has.sub {E w : World} {ss ts : List (List Hp)} (H : Has E w ss) (h : ts.Sublist ss) : Has E w ts := Has0.weak H (sublist_flatten h)
def front (k : Nat) (ss : List (List Hp)) : List (List Hp) := match ss[k]? with | some s => s :: ss.eraseIdx k | none => ss
theorem perm_front (k : Nat) (ss : List (List Hp)) : (front k ss).Perm ss := by
 unfold front
 split
 ·
  rename_i h hk
  have hlt : k < ss.length := (List.getElem?_eq_some_iff.1 hk).1
  have he : ss[k] = h := (List.getElem?_eq_some_iff.1 hk).2
  rw [List.eraseIdx_eq_take_drop_succ]
  have h2 : ss = ss.take k ++ h :: ss.drop (k + 1) := by
   rw [← he, ← List.drop_eq_getElem_cons hlt, List.take_append_drop]
  exact List.perm_middle.symm.trans (by rw [← h2])
 · exact .refl _
theorem Has.perm {E w : World} {ss ts : List (List Hp)} (H : Has E w ss) (h : ts.Perm ss) : Has E w ts := Has0.perm H h.flatten
theorem Has.front {E w : World} {ss ts : List (List Hp)} (H : Has E w ss) (k : Nat) (h : Q.front k ss = ts) : Has E w ts := h ▸ H.perm (perm_front k ss)
theorem Has.cut {E w : World} {s t : List Hp} {ss : List (List Hp)} (H : Has E w ((s ++ t) :: ss)) : Has E w (s :: t :: ss) := by
 unfold Has at *; simpa using H
theorem zh {ss : List (List Hp)} (k : Nat) {s : List Hp} (h : ss[k]? = some s) : s ⊆ ss.flatten := fun _ hx => List.mem_flatten.2 ⟨s, List.mem_of_getElem? h, hx⟩
theorem Has.at {E w : World} {ss : List (List Hp)} (H : Has E w ss) {h : Hp} (hh : h ∈ ss.flatten) {b : Nat} {o : Obj} (hb : h b = some o) : w.heap[b]? = some o := Has0.at H hh hb
def OK (P : Program) (o : Oper) (ρ : Operand → Value) (w : World) (K : Value → World → Prop) : Prop :=
 match (execOp ρ o).run P w with
 | .ok (.value v) w' => K v w'
 | .ok .skip w' => K undef w'
 | .ok (.enter f args) w' => Calls P f args w' fun e w'' => ∃ v, e = .returned v ∧ K v w''
 | _ => False
theorem OK.wp {P : Program} {o : Oper} {a : Act} {w : World} {next : Act → World → Prop} {Q : Exit → Act → World → Prop}
  (h : OK P o a.eval w fun v w' => next (a.put o.dst v) w') : o.wp P a w next Q := by
 unfold OK at h
 unfold Oper.wp
 generalize (execOp a.eval o).run P w = r at h
 cases r with
 | ok n w' =>
  cases n <;> simp only [Oper.upon] at h ⊢ <;> first | exact h | exact h.elim | skip
  exact h.mono fun e w'' ⟨v, he, hk⟩ => by subst he; exact hk
 | halt x w' => exact h.elim
theorem OK.mono {P : Program} {o : Oper} {ρ : Operand → Value} {w : World} {K K' : Value → World → Prop} (h : OK P o ρ w K) (hk : ∀ v w', K v w' → K' v w') : OK P o ρ w K' := by
 unfold OK at *
 generalize (execOp ρ o).run P w = r at *
 cases r with
 | ok n w' =>
  cases n <;> simp only at h ⊢ <;> first | exact hk _ _ h | exact h.elim | skip
  exact h.mono fun e w'' ⟨v, he, hh⟩ => ⟨v, he, hk _ _ hh⟩
 | halt x w' => exact h.elim
def upd (r : Nat → Value) (d : Nat) (v : Value) : Nat → Value := fun t => bif Nat.beq t d then v else r t
def base (l : List Value) : Nat → Value := fun t => l.getD t undef
def fr (N : Nat) (r : Nat → Value) : Act := ⟨((List.range N).map r).toArray, []⟩
def ev (N : Nat) (r : Nat → Value) : Operand → Value
 | .tmp t => bif Nat.blt t N then r t else undef
 | .const v => v
 | .global g => .pointer (some ⟨g, 0, none⟩)
 | .func f => .func (.func f) #[] #[]
theorem act_ext {a b : Act} (h : a.tmps = b.tmps) (h' : a.defers = b.defers) : a = b := by cases a; cases b; cases h; cases h'; rfl
theorem upd_same (r : Nat → Value) (d : Nat) (v : Value) : upd r d v d = v := by simp [upd]
theorem upd_ne (r : Nat → Value) {d t : Nat} (v : Value) (h : t ≠ d) : upd r d v t = r t := by
 have : Nat.beq t d = false := by cases e : Nat.beq t d <;> simp_all
 simp [upd, this]
theorem fr_at (N : Nat) (r : Nat → Value) (t : Nat) : (fr N r).tmps[t]? = if t < N then some (r t) else none := by
 simp only [fr, List.getElem?_toArray, List.getElem?_map]
 by_cases h : t < N
 · rw [List.getElem?_range h, if_pos h]; rfl
 · rw [List.getElem?_eq_none (by simpa using h), if_neg h]; rfl
theorem fr_congr {N : Nat} {r r' : Nat → Value} (h : ∀ t, t < N → r t = r' t) : fr N r = fr N r' := by
 unfold fr
 rw [List.map_congr_left (g := r') (fun t ht => h t (List.mem_range.1 ht))]
theorem fr_put (N : Nat) (r : Nat → Value) (d : Nat) (v : Value) : (fr N r).put (some d) v = fr N (upd r d v) := by
 have hs : (fr N r).tmps.size = N := by simp [fr]
 have : ((fr N r).put (some d) v).tmps = (fr N (upd r d v)).tmps := by
  apply Array.ext_getElem?
  intro t
  rw [fr_at]
  simp only [Act.put, Array.getElem?_setIfInBounds, fr_at, hs]
  by_cases hd : d = t
  · subst hd; rw [if_pos rfl, upd_same]
  · rw [if_neg hd, upd_ne _ _ (Ne.symm hd)]
 exact act_ext this rfl
theorem fr_put_none (N : Nat) (r : Nat → Value) (v : Value) : (fr N r).put none v = fr N r := rfl
theorem fr_eval (N : Nat) (r : Nat → Value) : (fr N r).eval = ev N r := by
 funext x
 cases x with
 | tmp t =>
  simp only [Act.eval, ev, Array.getD_eq_getD_getElem?, fr_at]
  by_cases h : t < N
  ·
   have : Nat.blt t N = true := by simpa using h
   rw [if_pos h, this]; rfl
  ·
   have : Nat.blt t N = false := by
    cases e : Nat.blt t N with
    | false => rfl
    | true => exact absurd (by simpa using e) h
   rw [if_neg h, this]; rfl
 | _ => rfl
section steps
variable {P : Program} {ops : Array Oper} {Q : Exit → Act → World → Prop} {w : World} {rest : List Oper} {N : Nat} {r : Nat → Value}
theorem za {d : Nat} {op : Op} {T : TypeId} {pos : String} {after : Array Edge}
  (h : OK P ⟨some d, op, T, pos, after, none⟩ (ev N r) w fun v w' => wpList P ops Q rest (fr N (upd r d v)) w') :
  wpList P ops Q (⟨some d, op, T, pos, after, none⟩ :: rest) (fr N r) w := by
 unfold wpList
 rw [if_pos (by simp [Region.wanted])]
 refine .inl (OK.wp ?_)
 rw [fr_eval]
 exact h.mono fun v w' hk => by rw [fr_put]; exact hk
theorem zB {op : Op} {T : TypeId} {pos : String} {after : Array Edge}
  (h : OK P ⟨none, op, T, pos, after, none⟩ (ev N r) w fun _ w' => wpList P ops Q rest (fr N r) w') :
  wpList P ops Q (⟨none, op, T, pos, after, none⟩ :: rest) (fr N r) w := by
 unfold wpList
 rw [if_pos (by simp [Region.wanted])]
 refine .inl (OK.wp ?_)
 rw [fr_eval]
 exact h.mono fun v w' hk => hk
def dstOf : List Oper → Nat → Option Tmp
 | [], _ => none
 | o :: _, 0 => o.dst
 | _ :: l, g + 1 => dstOf l g
theorem dstOf_spec : ∀ (ops : List Oper) (g : Nat) {t : Nat}, dstOf ops g = some t → ∃ og, ops.toArray[g]? = some og ∧ og.dst = some t
 | [], _, _, h => by cases h
 | o :: _, 0, t, h => ⟨o, by simp, h⟩
 | _ :: l, g + 1, t, h => by
  obtain ⟨og, h1, h2⟩ := dstOf_spec l g h
  exact ⟨og, by simpa using h1, h2⟩
theorem wanted_fr {d : Option Nat} {op : Op} {T : TypeId} {pos : String} {after : Array Edge} {g : Nat} {b b' : Bool} {og : Oper} {t : Nat}
  (hg : ops[g]? = some og) (ht : og.dst = some t) (hv : ev N r (.tmp t) = .bool b') : Region.wanted ⟨d, op, T, pos, after, some (g, b)⟩ (yielded ops (fr N r).tmps) = (b' == b) := by
 have hv' : (fr N r).tmps[t]? = some (.bool b') := by
  rw [fr_at]
  simp only [ev] at hv
  cases e : Nat.blt t N with
  | true => rw [e] at hv; rw [if_pos (by simpa using e)]; exact congrArg some hv
  | false => rw [e] at hv; cases hv
 simp only [Region.wanted, yielded, hg, ht, Option.bind_some, hv']
 cases b <;> cases b' <;> rfl
theorem zo {ops : List Oper} {d : Nat} {op : Op} {T : TypeId} {pos : String} {after : Array Edge} {g : Nat} {b : Bool} (t : Nat)
  (hgt : dstOf ops g = some t) (hv : ev N r (.tmp t) = .bool b)
  (h : OK P ⟨some d, op, T, pos, after, some (g, b)⟩ (ev N r) w fun v w' => wpList P ops.toArray Q rest (fr N (upd r d v)) w') :
  wpList P ops.toArray Q (⟨some d, op, T, pos, after, some (g, b)⟩ :: rest) (fr N r) w := by
 obtain ⟨og, hg, ht⟩ := dstOf_spec ops g hgt
 unfold wpList
 rw [if_pos (by rw [wanted_fr hg ht hv]; simp)]
 refine .inl (OK.wp ?_)
 rw [fr_eval]
 exact h.mono fun v w' hk => by rw [fr_put]; exact hk
theorem zi {ops : List Oper} {d : Nat} {op : Op} {T : TypeId} {pos : String} {after : Array Edge} {g : Nat} {b b' : Bool} (t : Nat)
  (hgt : dstOf ops g = some t) (hv : ev N r (.tmp t) = .bool b') (hne : (b' == b) = false)
  (h : wpList P ops.toArray Q rest (fr N (upd r d undef)) w) :
  wpList P ops.toArray Q (⟨some d, op, T, pos, after, some (g, b)⟩ :: rest) (fr N r) w := by
 obtain ⟨og, hg, ht⟩ := dstOf_spec ops g hgt
 unfold wpList
 rw [if_neg (by rw [wanted_fr hg ht hv, hne]; simp), fr_put]
 exact h
theorem zf (h : Q .normal (fr N r) w) : wpList P ops Q [] (fr N r) w := h
end steps
section ops
variable {P : Program} {ρ : Operand → Value} {w : World} {K : Value → World → Prop} {dst : Option Tmp} {T : TypeId} {pos : String} {after : Array Edge} {g : Option (Nat × Bool)}
theorem o_move {x : Operand} {v : Value} (hx : ρ x = v) (h : K v w) : OK P ⟨dst, .move x, T, pos, after, g⟩ ρ w K := by subst hx; exact h
theorem o_assign {x : Operand} {v : Value} (hx : ρ x = v) (h : K v w) : OK P ⟨dst, .assign x, T, pos, after, g⟩ ρ w K := by subst hx; exact h
theorem zb {x : Operand} (v : Value) (hx : ρ x = v) (h : K v w) : OK P ⟨dst, .move x, T, pos, after, g⟩ ρ w K := o_move hx h
theorem zc {x : Operand} (v : Value) (hx : ρ x = v) (h : K v w) : OK P ⟨dst, .assign x, T, pos, after, g⟩ ρ w K := o_assign hx h
theorem o_pick {c x y : Operand} {b : Bool} {u v : Value} (hc : ρ c = .bool b) (hx : ρ x = u) (hy : ρ y = v) (h : K (if b then u else v) w) :
  OK P ⟨dst, .pick c x y, T, pos, after, g⟩ ρ w K := by
 subst hx hy
 show OK P _ ρ w K
 unfold OK
 simp only [execOp, hc, asBool, bind, pure, Sem.bind, Sem.run]
 exact h
theorem zl {x : Operand} {a : Addr} (hx : ρ x = .pointer (some a)) (h : K (.pointer (some a)) w) : OK P ⟨dst, .nilCheck x, T, pos, after, g⟩ ρ w K := by
 unfold OK; simp only [execOp, hx, pure, Sem.run]; exact h
theorem o_not {t : TypeId} {x : Operand} {b : Bool} (hx : ρ x = .bool b) (h : K (.bool (!b)) w) : OK P ⟨dst, .unOp .not t x, T, pos, after, g⟩ ρ w K := by
 unfold OK; simp only [execOp, hx, Op.unary, bind, pure, Sem.bind, Sem.run]; exact h
theorem zp {x : Operand} {i : Nat} {vs : Array Value} {v : Value} (hx : ρ x = .tuple vs) (hv : vs[i]? = some v) (h : K v w) : OK P ⟨dst, .extract x i, T, pos, after, g⟩ ρ w K := by
 unfold OK; simp only [execOp, hx, Instr.extract, hv, bind, pure, Sem.bind, Sem.run]; exact h
theorem run_eqGuard_int {op : BinOp} {t : TypeId} {x y : Operand} {k k' : IntKind} {a b : Int} : (eqGuard op t x y (.int k a) (.int k' b)) = .pure () := by
 cases op <;> rfl
theorem o_bin {op : BinOp} {t u : TypeId} {x y : Operand} {k : IntKind} {a b : Int} {v : Value} (hx : ρ x = .int k a) (hy : ρ y = .int k b)
  (hr : (binOp op t (.int k a) (.int k b)).run P w = .ok v w) (h : K v w) : OK P ⟨dst, .binOp op t x y u, T, pos, after, g⟩ ρ w K := by
 unfold OK
 simp only [execOp, hx, hy, run_eqGuard_int]
 have e : (Sem.bind (Sem.bind (Sem.pure ()) fun _ => binOp op t (.int k a) (.int k b)) fun v => Sem.pure (Next.value v)).run P w = .ok (.value v) w := by
  show (Sem.bind (binOp op t (.int k a) (.int k b)) fun v => Sem.pure (Next.value v)).run P w = _
  rw [show (Sem.bind (binOp op t (.int k a) (.int k b)) fun v => Sem.pure (Next.value v)) = ((binOp op t (.int k a) (.int k b)) >>= fun v => pure (Next.value v)) from rfl]
  rw [Sem.run_bind, hr]; rfl
 show match (Sem.bind (Sem.bind (Sem.pure ()) fun _ => binOp op t (.int k a) (.int k b)) fun v => Sem.pure (Next.value v)).run P w with | .ok (.value v) w' => K v w' | .ok .skip w' => K undef w' | .ok (.enter f args) w' => _ | _ => False
 rw [e]; exact h
end ops
end Go.Q
namespace Go.Q
section ops
variable {P : Program} {ρ : Operand → Value} {w : World} {K : Value → World → Prop} {dst : Option Tmp} {T : TypeId} {pos : String} {after : Array Edge} {g : Option (Nat × Bool)}
theorem OK.val {o : Oper} {v : Value} {w' : World} (hr : (execOp ρ o).run P w = .ok (.value v) w') (h : K v w') : OK P o ρ w K := by
 unfold OK; rw [hr]; exact h
theorem OK.skip {o : Oper} {w' : World} (hr : (execOp ρ o).run P w = .ok .skip w') (h : K undef w') : OK P o ρ w K := by
 unfold OK; rw [hr]; exact h
theorem run_v {s : Sem Value} {v : Value} {w' : World} (h : s.run P w = .ok v w') : (do pure (Next.value (← s)) : Sem Next).run P w = .ok (.value v) w' := by
 rw [Sem.run_bind, h]; rfl
theorem run_u {s : Sem Unit} {w' : World} (h : s.run P w = .ok () w') : (do s; pure Next.skip : Sem Next).run P w = .ok .skip w' := by
 rw [Sem.run_bind, h]; rfl
theorem zD {t u : TypeId} {x y : Operand} {k : IntKind} {a b c : Int} (hx : ρ x = .int k a) (hy : ρ y = .int k b) (hc : k.wrap (a + b) = c) (h : K (.int k c) w) :
  OK P ⟨dst, .binOp .add t x y u, T, pos, after, g⟩ ρ w K := o_bin hx hy (by simp [binOp, Op.intArith, hc]) h
theorem o_sub {t u : TypeId} {x y : Operand} {k : IntKind} {a b c : Int} (hx : ρ x = .int k a) (hy : ρ y = .int k b) (hc : k.wrap (a - b) = c) (h : K (.int k c) w) :
  OK P ⟨dst, .binOp .sub t x y u, T, pos, after, g⟩ ρ w K := o_bin hx hy (by simp [binOp, Op.intArith, hc]) h
theorem o_mul {t u : TypeId} {x y : Operand} {k : IntKind} {a b c : Int} (hx : ρ x = .int k a) (hy : ρ y = .int k b) (hc : k.wrap (a * b) = c) (h : K (.int k c) w) :
  OK P ⟨dst, .binOp .mul t x y u, T, pos, after, g⟩ ρ w K := o_bin hx hy (by simp [binOp, Op.intArith, hc]) h
theorem o_quo {t u : TypeId} {x y : Operand} {k : IntKind} {a b c : Int} (hx : ρ x = .int k a) (hy : ρ y = .int k b) (h0 : b ≠ 0) (hc : k.wrap (a.tdiv b) = c) (h : K (.int k c) w) :
  OK P ⟨dst, .binOp .quo t x y u, T, pos, after, g⟩ ρ w K := o_bin hx hy (by simp [binOp, Op.intDiv, h0, hc]) h
theorem o_rem {t u : TypeId} {x y : Operand} {k : IntKind} {a b c : Int} (hx : ρ x = .int k a) (hy : ρ y = .int k b) (h0 : b ≠ 0) (hc : a.tmod b = c) (h : K (.int k c) w) :
  OK P ⟨dst, .binOp .rem t x y u, T, pos, after, g⟩ ρ w K := o_bin hx hy (by simp [binOp, Op.intDiv, h0, hc]) h
theorem o_and {t u : TypeId} {x y : Operand} {k : IntKind} {a b c : Int} (hx : ρ x = .int k a) (hy : ρ y = .int k b)
  (hc : k.wrap ((BitVec.ofInt k.bits a &&& BitVec.ofInt k.bits b).toNat : Int) = c) (h : K (.int k c) w) :
  OK P ⟨dst, .binOp .and t x y u, T, pos, after, g⟩ ρ w K := o_bin hx hy (by simp only [binOp, Op.intBits]; rw [if_neg (by simp)]; simp only [Sem.run_pure]; rw [hc]) h
theorem o_or {t u : TypeId} {x y : Operand} {k : IntKind} {a b c : Int} (hx : ρ x = .int k a) (hy : ρ y = .int k b)
  (hc : k.wrap ((BitVec.ofInt k.bits a ||| BitVec.ofInt k.bits b).toNat : Int) = c) (h : K (.int k c) w) :
  OK P ⟨dst, .binOp .or t x y u, T, pos, after, g⟩ ρ w K := o_bin hx hy (by simp only [binOp, Op.intBits]; rw [if_neg (by simp)]; simp only [Sem.run_pure]; rw [hc]) h
theorem o_xor {t u : TypeId} {x y : Operand} {k : IntKind} {a b c : Int} (hx : ρ x = .int k a) (hy : ρ y = .int k b)
  (hc : k.wrap ((BitVec.ofInt k.bits a ^^^ BitVec.ofInt k.bits b).toNat : Int) = c) (h : K (.int k c) w) :
  OK P ⟨dst, .binOp .xor t x y u, T, pos, after, g⟩ ρ w K := o_bin hx hy (by simp only [binOp, Op.intBits]; rw [if_neg (by simp)]; simp only [Sem.run_pure]; rw [hc]) h
theorem run_eqGuard_shift {op : BinOp} {t : TypeId} {x y : Operand} {u v : Value} (h : op = .shl ∨ op = .shr ∨ op = .add ∨ op = .lss ∨ op = .leq ∨ op = .gtr ∨ op = .geq) : eqGuard op t x y u v = .pure () := by
 rcases h with rfl | rfl | rfl | rfl | rfl | rfl | rfl <;> rfl
theorem o_shr {t u : TypeId} {x y : Operand} {k yk : IntKind} {a b c : Int} (hx : ρ x = .int k a) (hy : ρ y = .int yk b) (h0 : 0 ≤ b)
  (hc : a.fdiv (2 ^ (min b.toNat k.bits)) = c) (h : K (.int k c) w) : OK P ⟨dst, .binOp .shr t x y u, T, pos, after, g⟩ ρ w K := by
 refine OK.val (run_v ?_) h
 simp only [hx, hy, run_eqGuard_shift (op := .shr) (by simp), binOp, Op.shift]
 rw [if_neg (by omega)]
 simp [hc]
theorem o_shl {t u : TypeId} {x y : Operand} {k yk : IntKind} {a b c : Int} (hx : ρ x = .int k a) (hy : ρ y = .int yk b) (h0 : 0 ≤ b)
  (hc : k.wrap (a * 2 ^ (min b.toNat k.bits)) = c) (h : K (.int k c) w) : OK P ⟨dst, .binOp .shl t x y u, T, pos, after, g⟩ ρ w K := by
 refine OK.val (run_v ?_) h
 simp only [hx, hy, run_eqGuard_shift (op := .shl) (by simp), binOp, Op.shift]
 rw [if_neg (by omega)]
 simp [hc]
theorem zL {t u : TypeId} {x y : Operand} {k : IntKind} {a b : Int} (hx : ρ x = .int k a) (hy : ρ y = .int k b) (h : K (.bool (decide (a < b))) w) :
  OK P ⟨dst, .binOp .lss t x y u, T, pos, after, g⟩ ρ w K := o_bin hx hy (by simp [binOp, Op.intCmp]) h
theorem o_leq {t u : TypeId} {x y : Operand} {k : IntKind} {a b : Int} (hx : ρ x = .int k a) (hy : ρ y = .int k b) (h : K (.bool (decide (a ≤ b))) w) :
  OK P ⟨dst, .binOp .leq t x y u, T, pos, after, g⟩ ρ w K := o_bin hx hy (by simp [binOp, Op.intCmp]) h
theorem o_gtr {t u : TypeId} {x y : Operand} {k : IntKind} {a b : Int} (hx : ρ x = .int k a) (hy : ρ y = .int k b) (h : K (.bool (decide (b < a))) w) :
  OK P ⟨dst, .binOp .gtr t x y u, T, pos, after, g⟩ ρ w K := o_bin hx hy (by simp [binOp, Op.intCmp]) h
theorem o_geq {t u : TypeId} {x y : Operand} {k : IntKind} {a b : Int} (hx : ρ x = .int k a) (hy : ρ y = .int k b) (h : K (.bool (decide (b ≤ a))) w) :
  OK P ⟨dst, .binOp .geq t x y u, T, pos, after, g⟩ ρ w K := o_bin hx hy (by simp [binOp, Op.intCmp]) h
theorem yc {t u : TypeId} {x y : Operand} {k : IntKind} {a b : Int} (hx : ρ x = .int k a) (hy : ρ y = .int k b) (h : K (.bool (decide (a = b))) w) :
  OK P ⟨dst, .binOp .eql t x y u, T, pos, after, g⟩ ρ w K := o_bin hx hy (by
   have e : (a == b) = decide (a = b) := rfl
   simp only [binOp, Op.intCmp]; rw [if_neg (by simp)]; simp [e]) h
theorem o_neq {t u : TypeId} {x y : Operand} {k : IntKind} {a b : Int} (hx : ρ x = .int k a) (hy : ρ y = .int k b) (h : K (.bool (decide (a ≠ b))) w) :
  OK P ⟨dst, .binOp .neq t x y u, T, pos, after, g⟩ ρ w K := o_bin hx hy (by
   have e : (a != b) = decide (a ≠ b) := by by_cases h : a = b <;> simp [h]
   simp only [binOp, Op.intCmp]; rw [if_neg (by simp)]; simp [e]) h
theorem run_equal {t : TypeId} {x y : Value} {b : Bool} (h : (Op.equalIn (9999 + 1) t x y).run P w = .ok b w) : (Op.equal t x y).run P w = .ok b w := h
theorem o_eqx {t u : TypeId} {x y : Operand} {p q : Value} {b : Bool} (hx : ρ x = p) (hy : ρ y = q) (hg : (eqGuard .eql t x y p q).run P w = .ok () w)
  (hb : binOp .eql t p q = (do pure (.bool (← Op.equal t p q)))) (he : (Op.equalIn (9999 + 1) t p q).run P w = .ok b w) (h : K (.bool b) w) :
  OK P ⟨dst, .binOp .eql t x y u, T, pos, after, g⟩ ρ w K := by
 subst hx hy
 refine OK.val (run_v ?_) h
 rw [Sem.run_bind, hg, Result.andThen_ok, hb, Sem.run_bind, run_equal he]; rfl
theorem o_nex {t u : TypeId} {x y : Operand} {p q : Value} {b : Bool} (hx : ρ x = p) (hy : ρ y = q) (hg : (eqGuard .neq t x y p q).run P w = .ok () w)
  (hb : binOp .neq t p q = (do pure (.bool (!(← Op.equal t p q))))) (he : (Op.equalIn (9999 + 1) t p q).run P w = .ok b w) (h : K (.bool (!b)) w) :
  OK P ⟨dst, .binOp .neq t x y u, T, pos, after, g⟩ ρ w K := by
 subst hx hy
 refine OK.val (run_v ?_) h
 rw [Sem.run_bind, hg, Result.andThen_ok, hb, Sem.run_bind, run_equal he]; rfl
theorem q_pnil {t e : TypeId} {p : Option Addr} (ht : P.underlying t = some (.pointer e)) (d : Nat) : (Op.equalIn (d + 1) t (.pointer p) (.pointer none)).run P w = .ok p.isNone w := by
 cases p <;> simp [Op.equalIn, run_underlying ht]
theorem q_snil {t e : TypeId} {p : Option Addr} {n c l0 c0 : Nat} (ht : P.underlying t = some (.slice e)) (d : Nat) :
  (Op.equalIn (d + 1) t (.slice p n c) (.slice none l0 c0)).run P w = .ok p.isNone w := by
 cases p <;> simp [Op.equalIn, run_underlying ht]
theorem o_pnil {t u e : TypeId} {x y : Operand} {p : Option Addr} (ht : P.underlying t = some (.pointer e)) (hx : ρ x = .pointer p) (hy : ρ y = .pointer none)
  (h : K (.bool p.isNone) w) : OK P ⟨dst, .binOp .eql t x y u, T, pos, after, g⟩ ρ w K := o_eqx hx hy rfl rfl (q_pnil ht 9999) h
theorem o_pnnil {t u e : TypeId} {x y : Operand} {p : Option Addr} (ht : P.underlying t = some (.pointer e)) (hx : ρ x = .pointer p) (hy : ρ y = .pointer none)
  (h : K (.bool (!p.isNone)) w) : OK P ⟨dst, .binOp .neq t x y u, T, pos, after, g⟩ ρ w K := o_nex hx hy rfl rfl (q_pnil ht 9999) h
theorem o_snil {t u e : TypeId} {x y : Operand} {p : Option Addr} {n c l0 c0 : Nat} (ht : P.underlying t = some (.slice e)) (hx : ρ x = .slice p n c) (hy : ρ y = .slice none l0 c0)
  (h : K (.bool p.isNone) w) : OK P ⟨dst, .binOp .eql t x y u, T, pos, after, g⟩ ρ w K := o_eqx hx hy rfl rfl (q_snil ht 9999) h
def S (l : List UInt8) : Value := .string ⟨l.toArray⟩
theorem S_of (s : ByteArray) : Value.string s = S s.data.toList := by simp [S]
theorem bytes_toList (l : List UInt8) : (⟨l.toArray⟩ : ByteArray).toList = l := by
 have key : ∀ (n i : Nat) (r : List UInt8), l.length - i = n → i ≤ l.length → ByteArray.toList.loop (⟨l.toArray⟩ : ByteArray) i r = r.reverse ++ l.drop i := by
  intro n
  induction n with
  | zero =>
   intro i r hn hi
   unfold ByteArray.toList.loop
   have hs : (⟨l.toArray⟩ : ByteArray).size = l.length := by simp [ByteArray.size]
   rw [if_neg (by rw [hs]; omega), List.drop_eq_nil_of_le (by omega)]; simp
  | succ n ih =>
   intro i r hn hi
   unfold ByteArray.toList.loop
   have hs : (⟨l.toArray⟩ : ByteArray).size = l.length := by simp [ByteArray.size]
   have hlt : i < l.length := by omega
   rw [if_pos (by rw [hs]; omega), ih (i + 1) _ (by omega) (by omega), List.drop_eq_getElem_cons hlt]
   simp [ByteArray.get!, hlt]
 have := key l.length 0 [] (by omega) (by omega)
 simpa [ByteArray.toList] using this
theorem bytes_size (l : List UInt8) : (⟨l.toArray⟩ : ByteArray).size = l.length := by simp [ByteArray.size]
theorem bytes_append (a b : List UInt8) : (⟨a.toArray⟩ : ByteArray) ++ ⟨b.toArray⟩ = ⟨(a ++ b).toArray⟩ := by
 apply ByteArray.ext; simp
theorem o_sadd {t u : TypeId} {x y : Operand} {a b : List UInt8} (hx : ρ x = S a) (hy : ρ y = S b) (hl : a.length + b.length ≤ 9223372036854775807) (h : K (S (a ++ b)) w) :
  OK P ⟨dst, .binOp .add t x y u, T, pos, after, g⟩ ρ w K := by
 refine OK.val (run_v ?_) h
 simp only [hx, hy, S]
 have := run_string_add_sum (P := P) (w := w) ⟨a.toArray⟩ ⟨b.toArray⟩ (by rw [bytes_size, bytes_size]; exact hl)
 rw [bytes_append] at this
 exact this
theorem o_scmp {op : BinOp} {t u : TypeId} {x y : Operand} {a b : List UInt8} {r : Bool} (hx : ρ x = S a) (hy : ρ y = S b)
  (hr : (binOp op t (S a) (S b)).run P w = .ok (.bool r) w) (hg : eqGuard op t x y (S a) (S b) = .pure ()) (h : K (.bool r) w) :
  OK P ⟨dst, .binOp op t x y u, T, pos, after, g⟩ ρ w K := by
 refine OK.val (run_v ?_) h
 rw [hx, hy, hg]
 exact hr
theorem o_seql {t u : TypeId} {x y : Operand} {a b : List UInt8} (hx : ρ x = S a) (hy : ρ y = S b) (h : K (.bool (decide (a = b))) w) :
  OK P ⟨dst, .binOp .eql t x y u, T, pos, after, g⟩ ρ w K := o_scmp hx hy (by
   show (Op.stringOp .eql _ _).run P w = _
   simp only [Op.stringOp, bytes_toList]
   have e : (a == b) = decide (a = b) := by by_cases h : a = b <;> simp [h]
   rw [e]; rfl) rfl h
theorem o_sneq {t u : TypeId} {x y : Operand} {a b : List UInt8} (hx : ρ x = S a) (hy : ρ y = S b) (h : K (.bool (decide (a ≠ b))) w) :
  OK P ⟨dst, .binOp .neq t x y u, T, pos, after, g⟩ ρ w K := o_scmp hx hy (by
   show (Op.stringOp .neq _ _).run P w = _
   simp only [Op.stringOp, bytes_toList]
   have e : (!(a == b)) = decide (a ≠ b) := by by_cases h : a = b <;> simp [h]
   rw [e]; rfl) rfl h
theorem zV {b : Builtin} {args : Array Operand} {ts : Array TypeId} {v : Value} {w' : World}
  (hr : (builtin b ts T (args.map fun | .const _ => true | _ => false) (args.map ρ)).run P w = .ok (.value v) w') (h : K v w') :
  OK P ⟨dst, .call ⟨.builtin b, args, ts⟩, T, pos, after, g⟩ ρ w K := by
 refine OK.val ?_ h
 show (Sem.bind (Sem.bind (Sem.pure _) _) _).run P w = _
 exact hr
theorem z8 {x : Operand} {t : TypeId} {a : List UInt8} (ht : P.underlying t = some .string) (hx : ρ x = S a) (h : K (.int .i64 a.length) w) :
  OK P ⟨dst, .call ⟨.builtin .len, #[x], #[t]⟩, T, pos, after, g⟩ ρ w K := by
 refine zV ?_ h
 simp [hx, S, builtin, Builtin.len_, run_underlying ht, goInt, bytes_size]
theorem o_len {x : Operand} {t e : TypeId} {p : Option Addr} {n c : Nat} (ht : P.underlying t = some (.slice e)) (hx : ρ x = .slice p n c) (h : K (.int .i64 n) w) :
  OK P ⟨dst, .call ⟨.builtin .len, #[x], #[t]⟩, T, pos, after, g⟩ ρ w K := by
 refine zV ?_ h
 simp [hx, builtin, Builtin.len_, run_underlying ht, goInt]
theorem o_max {x y : Operand} {t u : TypeId} {k k' : IntKind} {a b : Int} (hx : ρ x = .int k a) (hy : ρ y = .int k' b) (h : K (.int k (max a b)) w) :
  OK P ⟨dst, .call ⟨.builtin .max, #[x, y], #[t, u]⟩, T, pos, after, g⟩ ρ w K := by
 refine zV ?_ h
 have e : (if b > a then b else a) = max a b := by split <;> omega
 simp [hx, hy, builtin, Builtin.max_, Builtin.max2, e]
theorem o_min {x y : Operand} {t u : TypeId} {k k' : IntKind} {a b : Int} (hx : ρ x = .int k a) (hy : ρ y = .int k' b) (h : K (.int k (min a b)) w) :
  OK P ⟨dst, .call ⟨.builtin .min, #[x, y], #[t, u]⟩, T, pos, after, g⟩ ρ w K := by
 refine zV ?_ h
 have e : (if b < a then b else a) = min a b := by split <;> omega
 simp [hx, hy, builtin, Builtin.min_, Builtin.min2, e]
theorem o_conv {s t : TypeId} {x : Operand} {k k' : IntKind} {a c : Int} {ds : TypeDesc} (hs : P.underlying s = some ds) (ht : P.underlying t = some (.int k)) (hx : ρ x = .int k' a)
  (hc : k.wrap a = c) (h : K (.int k c) w) : OK P ⟨dst, .convert s t x, T, pos, after, g⟩ ρ w K := by
 refine OK.val (run_v ?_) h
 rw [hx]
 rw [← hc]
 cases ds <;> simp [convert, run_underlying hs, run_underlying ht, Conv.intToInt]
theorem o_sidx {t : TypeId} {x y : Operand} {a : List UInt8} {k : IntKind} {i : Int} {b : UInt8} (ht : P.underlying t = some .string) (hx : ρ x = S a) (hy : ρ y = .int k i)
  (h0 : 0 ≤ i) (hb : a[i.toNat]? = some b) (h : K (.int .u8 b.toNat) w) : OK P ⟨dst, .index t x y, T, pos, after, g⟩ ρ w K := by
 refine OK.val (run_v ?_) h
 have e : (⟨a.toArray⟩ : ByteArray)[i.toNat]? = some b := by
  obtain ⟨hlt, hv⟩ := List.getElem?_eq_some_iff.1 hb
  have hs : i.toNat < (⟨a.toArray⟩ : ByteArray).size := by rw [bytes_size]; exact hlt
  rw [getElem?_pos (⟨a.toArray⟩ : ByteArray) i.toNat hs, ByteArray.getElem_eq_getElem_data]
  simpa using hv
 simp [hx, hy, S, Instr.index, asIntOf, run_underlying ht, h0, e]
end ops
end Go.Q
namespace Go.Q
theorem nodup_len : ∀ (a b : List Int), a.Nodup → (∀ x ∈ a, x ∈ b) → a.length ≤ b.length
 | [], _, _, _ => Nat.zero_le _
 | x :: a, b, h, hs => by
  have h2 := List.nodup_cons.1 h
  have hx := hs x (List.mem_cons_self ..)
  have := nodup_len a (b.erase x) h2.2 fun y hy => (List.mem_erase_of_ne (fun e => h2.1 (by rw [← e]; exact hy))).2 (hs y (List.mem_cons_of_mem _ hy))
  rw [List.length_erase_of_mem hx] at this
  have : 0 < b.length := List.length_pos_of_mem hx
  rw [List.length_cons]; omega
end Go.Q
namespace Go.Q
def CellsAt (L : List Hp) (b off : Nat) (cs : List Value) : Prop := ∃ h ∈ L, ∃ c T f, h b = some (.cells c T f) ∧ ∀ j v, cs[j]? = some v → c[off + j]? = some v
theorem CellsAt.sub {L : List Hp} {b off : Nat} {cs ds : List Value} {k : Nat} (H : CellsAt L b off cs) (hd : ∀ j v, ds[j]? = some v → cs[k + j]? = some v) : CellsAt L b (off + k) ds := by
 obtain ⟨h, hh, c, T, f, hb, hc⟩ := H
 exact ⟨h, hh, c, T, f, hb, fun j v hv => by rw [Nat.add_assoc]; exact hc _ _ (hd j v hv)⟩
theorem CellsAt.mono {L M : List Hp} {b off : Nat} {cs : List Value} (H : CellsAt L b off cs) (hs : L ⊆ M) : CellsAt M b off cs := by
 obtain ⟨h, hh, r⟩ := H; exact ⟨h, hs hh, r⟩
theorem CellsAt.one {b off : Nat} {c : Array Value} {T : TypeId} {f : Nat × Nat} {cs : List Value} (h : (c.toList.drop off).take cs.length = cs) : CellsAt [Hp.one b (.cells c T f)] b off cs :=
 ⟨_, List.mem_singleton.2 rfl, c, T, f, Hp.one_at _ _, fun j v hv => by
  have hj : j < cs.length := (List.getElem?_eq_some_iff.1 hv).1
  rw [← h, List.getElem?_take, if_pos hj, List.getElem?_drop] at hv
  simpa using hv⟩
theorem Has.cell {E w : World} {ss : List (List Hp)} (H : Has E w ss) {L : List Hp} (hL : L ⊆ ss.flatten) {b off j : Nat} {cs : List Value} {v : Value} (hc : CellsAt L b off cs) (hj : cs[j]? = some v) :
  w.cell? ⟨b, off + j, none⟩ = some v := by
 obtain ⟨h, hh, c, T, f, hb, hcc⟩ := hc
 rw [cell_of_row w b (off + j) c T f (H.at (hL hh) hb)]
 exact hcc j v hj
theorem add_lit (b off j : Nat) : (⟨b, off, none⟩ : Addr).add j = ⟨b, off + j, none⟩ := by unfold Addr.add; split <;> simp_all
def TI (P : Program) (t : TypeId) (z : Value) (sz by_ : Nat) : Prop := ∃ i, P.info? t = some i ∧ i.zero = some z ∧ i.size = sz ∧ i.bytes = by_
theorem TI.mk {P : Program} {t : TypeId} {z : Value} {sz by_ : Nat} (h : (P.info? t).map (fun i => (i.zero, i.size, i.bytes)) = some (some z, sz, by_)) : TI P t z sz by_ := by
 unfold TI
 cases hi : P.info? t with
 | none => simp [hi] at h
 | some i => simp [hi] at h; exact ⟨i, rfl, h⟩
theorem TI.size {P : Program} {t : TypeId} {z : Value} {sz by_ : Nat} (h : TI P t z sz by_) (w : World) : (sizeOf t).run P w = .ok sz w := by
 obtain ⟨i, hi, _, rfl, _⟩ := h
 simp [sizeOf, typeInfo, hi]
def aggB : TypeDesc → Bool
 | .struct _ | .array _ _ => true
 | _ => false
theorem run_isAgg {P : Program} {t : TypeId} {d : TypeDesc} (h : P.underlying t = some d) (w : World) : (isAgg t).run P w = .ok (aggB d) w := by
 unfold isAgg
 rw [Sem.run_bind, run_underlying h]
 cases d <;> rfl
section ops
variable {P : Program} {ρ : Operand → Value} {E w : World} {ss : List (List Hp)} {K : Value → World → Prop} {dst : Option Tmp} {T : TypeId} {pos : String} {after : Array Edge} {g : Option (Nat × Bool)}
theorem zj {t : TypeId} {x : Operand} {d : TypeDesc} {L : List Hp} {b off : Nat} {v : Value} (ht : P.underlying t = some d) (hd : aggB d = false)
  (hx : ρ x = .pointer (some ⟨b, off, none⟩)) (H : Has E w ss) (hL : L ⊆ ss.flatten) (hc : CellsAt L b off [v]) (hK : K v w) :
  OK P ⟨dst, .load t x, T, pos, after, g⟩ ρ w K := by
 refine OK.val (run_v ?_) hK
 have e := H.cell (j := 0) (v := v) hL hc rfl
 simp only [hx, Instr.loadAt, Instr.sureAddr, Sem.run_bind, Sem.run_pure, Result.andThen_ok, loadVar, run_isAgg ht, hd]
 simp only [Bool.false_eq_true, if_false, run_load]
 rw [show (⟨b, off, none⟩ : Addr) = ⟨b, off + 0, none⟩ from rfl, e]
theorem zG {t : TypeId} {x : Operand} {d : TypeDesc} {L : List Hp} {b off : Nat} {cs : List Value} {z : Value} {by_ : Nat} (ht : P.underlying t = some d) (hd : aggB d = true)
  (hi : TI P t z cs.length by_) (hx : ρ x = .pointer (some ⟨b, off, none⟩)) (H : Has E w ss) (hL : L ⊆ ss.flatten) (hc : CellsAt L b off cs) (hK : K (.agg cs.toArray) w) :
  OK P ⟨dst, .load t x, T, pos, after, g⟩ ρ w K := by
 refine OK.val (run_v ?_) hK
 simp only [hx, Instr.loadAt, Instr.sureAddr, Sem.run_bind, Sem.run_pure, Result.andThen_ok, loadVar, run_isAgg ht, hd, if_true, hi.size]
 rw [run_loadCells_list (P := P) (w := w) ⟨b, off, none⟩ cs (fun j v hv => by rw [add_lit]; exact H.cell hL hc hv)]
 rfl
theorem zg {s : TypeId} {x : Operand} {f b off k : Nat} (hr : ∀ w, (Instr.fieldAt s (.pointer (some ⟨b, off, none⟩)) f).run P w = .ok (.pointer (some ⟨b, k, none⟩)) w)
  (hx : ρ x = .pointer (some ⟨b, off, none⟩)) (hK : K (.pointer (some ⟨b, k, none⟩)) w) : OK P ⟨dst, .fieldAddr s x f, T, pos, after, g⟩ ρ w K :=
 OK.val (run_v (by rw [hx]; exact hr w)) hK
theorem zJ {op : Op} {v : Value} (hr : ∀ w, (execOp ρ ⟨dst, op, T, pos, after, g⟩).run P w = .ok (.value v) w) (hK : K v w) : OK P ⟨dst, op, T, pos, after, g⟩ ρ w K :=
 OK.val (hr w) hK
theorem o_box {e : TypeId} {x : Operand} {v : Value} {cs : Array Value} (hx : ρ x = v) (hcs : v.cells = cs) (H : Has E w ss)
  (hK : ∀ b w', Has E w' ([Hp.one b (.cells cs e (0, 0))] :: ss) → K (.pointer (some ⟨b, 0, none⟩)) w') : OK P ⟨dst, .box e x, T, pos, after, g⟩ ρ w K := by
 subst hcs hx
 exact OK.val (w' := { w with heap := w.heap.push (.cells (ρ x).cells e) }) (run_v (by simp [Instr.box, newVar, newRow])) (hK _ _ (H.alloc _))
theorem zU {e : TypeId} {z : Value} {sz by_ : Nat} {cs : Array Value} (hi : TI P e z sz by_) (hcs : z.cells = cs) (H : Has E w ss)
  (hK : ∀ b w', Has E w' ([Hp.one b (.cells cs e (0, 0))] :: ss) → K (.pointer (some ⟨b, 0, none⟩)) w') : OK P ⟨dst, .alloc e, T, pos, after, g⟩ ρ w K := by
 subst hcs
 obtain ⟨i, hi, hz, _⟩ := hi
 exact OK.val (w' := { w with heap := w.heap.push (.cells z.cells e) }) (run_v (by simp [Instr.alloc, zeroValue, typeInfo, hi, hz, newVar, newRow])) (hK _ _ (H.alloc _))
theorem o_makeMap {t : TypeId} (H : Has E w ss) (hK : ∀ b w', Has E w' ([Hp.one b (.map #[] 0)] :: ss) → K (.map (some b)) w') : OK P ⟨dst, .makeMap t none, T, pos, after, g⟩ ρ w K :=
 OK.val (w' := { w with heap := w.heap.push (.map #[] 0) }) (run_v (by simp [Instr.makeMap])) (hK _ _ (H.alloc _))
theorem zw {t e : TypeId} {len : Nat} {parts : Array (Nat × Operand)} {ps : Array (Nat × Value)} {cells : Array Value} {z : Value} {sz by_ : Nat}
  (ht : P.underlying t = some (.slice e)) (hi : TI P e z sz by_) (hsmall : ¬ len * sz > 2 ^ 24) (hp : parts.map (fun (i, x) => (i, ρ x)) = ps)
  (hf : Instr.fill (fun i => some (i * sz, sz)) ((Array.range (len * sz)).map (z.cells[· % z.cells.size]!)) ps.toList = some cells) (H : Has E w ss)
  (hK : ∀ b w', Has E w' ([Hp.one b (.cells cells e (0, 0))] :: ss) → K (.slice (some ⟨b, 0, none⟩) len len) w') : OK P ⟨dst, .buildSlice t len parts, T, pos, after, g⟩ ρ w K := by
 obtain ⟨i, hi, hz, hsz, _⟩ := hi
 subst hsz
 refine OK.val (w' := { w with heap := w.heap.push (.cells cells e) }) (run_v ?_) (hK _ _ (H.alloc _))
 rw [show (parts.map fun (i, x) => (i, ρ x)) = ps from hp]
 by_cases h0 : len * i.size = 0
 ·
  rw [h0] at hf
  simp only [Instr.buildSlice, Sem.run_bind, run_underlying ht, sizeOf, typeInfo, run_program, hi, Result.andThen_ok, Sem.run_pure, h0]
  simp [newRow, Array.range_zero'] at *
  simp [hf]
 · exact run_buildSlice w t e len ps cells i z ht hi hz hsmall h0 hf
theorem o_call {c : Operand} {f : FuncId} {first captured : Array Value} {args : Array Operand} {ts : Array TypeId} {vs : Array Value} {fn : Func} {R : Ending → World → Prop} (hf : P.funcs[f]? = some fn)
  (hb : fn.body.isNone = false) (hn : (fn.name == "runtime.NumGoroutine") = false) (hv : ρ c = .func (.func f) first captured) (hargs : first ++ args.map ρ ++ captured = vs) (hc : Calls P f vs w R)
  (hK : ∀ e w', R e w' → ∃ v, e = .returned v ∧ K v w') : OK P ⟨dst, .call ⟨.value c, args, ts⟩, T, pos, after, g⟩ ρ w K := by
 have hr : (execOp ρ ⟨dst, .call ⟨.value c, args, ts⟩, T, pos, after, g⟩).run P w = .ok (.enter f vs) w := by
  have hn' : fn.name ≠ "runtime.NumGoroutine" := by simpa using hn
  have hb' : fn.body ≠ none := by intro e; simp [e] at hb
  simp [execOp, resolve, hv, Deferred.ofValue, invoke, callFunc, hf, hn', hb', ← hargs]
 unfold OK
 rw [hr]
 exact hc.mono hK
def Sl (L : List Hp) (sz : Nat) (v : Value) (n : Nat) (cs : List Value) : Prop :=
 ∃ p cap, v = .slice p n cap ∧ n ≤ cap ∧ cap ≤ 9223372036854775807 ∧ cs.length = n * sz ∧ (0 < n → ∃ b off, p = some ⟨b, off, none⟩ ∧ CellsAt L b off cs)
theorem Sl.mono {L M : List Hp} {sz : Nat} {v : Value} {n : Nat} {cs : List Value} (H : Sl L sz v n cs) (hs : L ⊆ M) : Sl M sz v n cs := by
 obtain ⟨p, cap, e, a, b, c, d⟩ := H
 exact ⟨p, cap, e, a, b, c, fun h => let ⟨b, off, e, hc⟩ := d h; ⟨b, off, e, hc.mono hs⟩⟩
theorem Sl.form {L : List Hp} {sz : Nat} {v : Value} {n : Nat} {cs : List Value} (H : Sl L sz v n cs) : ∃ p cap, v = .slice p n cap := let ⟨p, cap, e, _⟩ := H; ⟨p, cap, e⟩
theorem zQ {x : Operand} {t e : TypeId} {L : List Hp} {sz n : Nat} {v : Value} {cs : List Value} (ht : P.underlying t = some (.slice e)) (hx : ρ x = v) (hs : Sl L sz v n cs) (hK : K (.int .i64 n) w) :
  OK P ⟨dst, .call ⟨.builtin .len, #[x], #[t]⟩, T, pos, after, g⟩ ρ w K := by
 obtain ⟨p, cap, rfl, _⟩ := hs
 exact o_len ht hx hK
theorem o_indexAddr {x y : Operand} {t e : TypeId} {L : List Hp} {sz n by_ : Nat} {v z : Value} {cs : List Value} {k : IntKind} {i : Int} (ht : P.underlying t = some (.slice e)) (hi : TI P e z sz by_)
  (hx : ρ x = v) (hs : Sl L sz v n cs) (hy : ρ y = .int k i) (h0 : 0 ≤ i) (h1 : i < n) (hK : ∀ b off, CellsAt L b off ((cs.drop (i.toNat * sz)).take sz) → K (.pointer (some ⟨b, off, none⟩)) w) :
  OK P ⟨dst, .indexAddr t x y, T, pos, after, g⟩ ρ w K := by
 obtain ⟨p, cap, rfl, hnc, hcm, hl, hp⟩ := hs
 obtain ⟨b, off, rfl, hc⟩ := hp (by omega)
 refine OK.val (run_v (v := .pointer (some ⟨b, off + i.toNat * sz, none⟩)) ?_) (hK _ _ (hc.sub ?_))
 ·
  rw [hx, hy]
  simp [Instr.indexAt, asIntOf, run_underlying ht, h0, h1, hi.size, add_lit]
 ·
  intro j v hv
  rw [List.getElem?_take] at hv
  split at hv
  · rw [List.getElem?_drop] at hv; exact hv
  · cases hv
theorem drop_take_map {α : Type} (f : α → Value) (l : List α) (i : Nat) (hi : i < l.length) : ((l.map f).drop (i * 1)).take 1 = [f l[i]] := by
 rw [Nat.mul_one, ← List.map_drop, List.drop_eq_getElem_cons hi]; rfl
theorem zH {x y : Operand} {t : TypeId} {b off : Nat} {c c' : Array Value} {U : TypeId} {v z : Value} {by_ : Nat} (hi : TI P t z 1 by_) (hx : ρ x = .pointer (some ⟨b, off, none⟩)) (hy : ρ y = v)
  (hv : v.oneCell' = true) (hlt : off < c.size) (hc : c.setIfInBounds off v = c') (H : Has E w ([Hp.one b (.cells c U (0, 0))] :: ss))
  (hK : ∀ w', Has E w' ([Hp.one b (.cells c' U (0, 0))] :: ss) → K undef w') : OK P ⟨dst, .store t x y, T, pos, after, g⟩ ρ w K := by
 have hwb : w.heap[b]? = some (.cells c U (0, 0)) := H.at (h := Hp.one b (.cells c U (0, 0))) (by simp) (Hp.one_at _ _)
 have hcell : w.cell? ⟨b, off, none⟩ = some c[off] := by rw [cell_of_row w b off c U (0, 0) hwb]; simp [hlt]
 have hfz : w.frozen? ⟨b, off, none⟩ = false := by simp [World.frozen?, hwb]
 have hcl : v.cells = #[v] := by cases v <;> first | rfl | (simp [Value.oneCell'] at hv)
 refine OK.skip (w' := w.setCell ⟨b, off, none⟩ v) (run_u ?_) (hK _ ?_)
 ·
  rw [hx, hy]
  simp only [Instr.storeAt, Instr.sureAddr, Sem.run_bind, Sem.run_pure, Result.andThen_ok, storeVar, hi.size, hcl]
  simp [storeCells, add_lit, run_store P w ⟨b, off, none⟩ v .plain hv, hcell, hfz]
 ·
  refine Has0.write (an := [Hp.one b (.cells c U (0, 0))]) (an' := [Hp.one b (.cells c' U (0, 0))]) (hs := ss.flatten) H rfl rfl rfl (by simp) ?_ ?_ ?_
  ·
   intro k hk
   have hk := hk _ (List.mem_singleton.2 rfl)
   refine .inl fun h hh => ?_
   rw [List.mem_singleton.1 hh]
   unfold Hp.one at hk ⊢
   split at hk
   · cases hk
   · rw [if_neg (by assumption)]
  ·
   intro h hh k o hk
   rw [List.mem_singleton.1 hh] at hk
   obtain ⟨rfl, rfl⟩ := Hp.one_some hk
   simp only [World.setCell, Array.getElem?_modify]
   simp [hwb, hc]
  ·
   intro k _ hk
   have hk := hk _ (List.mem_singleton.2 rfl)
   have : k ≠ b := by rintro rfl; rw [Hp.one_at] at hk; cases hk
   simp only [World.setCell, Array.getElem?_modify]
   rw [if_neg (by omega)]
end ops
end Go.Q
namespace Go.Q
abbrev yi (n : Int) : Value := .int .i64 n
abbrev yp (b : Nat) : Value := .pointer (some ⟨b, 0, none⟩)
abbrev yo (b : Nat) (c : Array Value) (T : Nat) : List Hp := [Hp.one b (.cells c T (0, 0))]
end Go.Q
namespace Go.Q
abbrev y0A : Array Value := #[(yi 0), (yi 0), (yi 0), (yi 0), (yi 0)]
abbrev y0L : List Value := [(yi 0), (yi 0), (yi 0), (yi 0), (yi 0)]
abbrev yq := @wp_seq_k
end Go.Q
namespace Go.Q
def Own (e : TypeId) (sz : Nat) (v : Value) (n : Nat) (cs : List Value) (hs : List Hp) : Prop :=
 cs.length = n * sz ∧ ((v = .slice none 0 0 ∧ n = 0 ∧ hs = []) ∨
  ∃ b cap cur, v = .slice (some ⟨b, 0, none⟩) n cap ∧ hs = [Hp.one b (.cells cur e (0, 0))] ∧ n ≤ cap ∧ cap ≤ maxLen ∧ cur.size = cap * sz ∧ cur.toList.take (n * sz) = cs)
theorem Own.nil (e : TypeId) (sz : Nat) : Own e sz (.slice none 0 0) 0 [] [] := ⟨by simp, .inl ⟨rfl, rfl, rfl⟩⟩
theorem Own.lit {e : TypeId} {sz n b : Nat} {cur : Array Value} (h : cur.size = n * sz) (hm : n ≤ maxLen) :
  Own e sz (.slice (some ⟨b, 0, none⟩) n n) n cur.toList [Hp.one b (.cells cur e (0, 0))] :=
 ⟨by simpa using h, .inr ⟨b, n, cur, rfl, rfl, Nat.le_refl _, hm, h, by rw [List.take_of_length_le (by simp [h])]⟩⟩
theorem Own.sl {e : TypeId} {sz n : Nat} {v : Value} {cs : List Value} {hs : List Hp} (H : Own e sz v n cs hs) : Sl hs sz v n cs := by
 obtain ⟨hl, ⟨rfl, rfl, rfl⟩ | ⟨b, cap, cur, rfl, rfl, hnc, hcm, hcs, htake⟩⟩ := H
 · exact ⟨none, 0, rfl, Nat.le_refl _, by omega, hl, fun h => by omega⟩
 ·
  refine ⟨_, cap, rfl, hnc, by simpa [maxLen] using hcm, hl, fun _ => ⟨b, 0, rfl, ?_⟩⟩
  refine CellsAt.one ?_
  rw [List.drop_zero, hl]; exact htake
theorem Own.row {e : TypeId} {sz n : Nat} {v : Value} {cs : List Value} {hs : List Hp} (H : Own e sz v n cs hs) {E w : World} {ss : List (List Hp)} (hH : Has E w (hs :: ss)) : w.ownsRow 0 e sz v n cs := by
 obtain ⟨hl, ⟨rfl, rfl, rfl⟩ | ⟨b, cap, cur, rfl, rfl, hnc, hcm, hcs, htake⟩⟩ := H
 · exact ⟨hl, .inl ⟨rfl, rfl⟩⟩
 · exact ⟨hl, .inr ⟨b, cap, cur, rfl, Nat.zero_le _, hH.at (by simp) (Hp.one_at _ _), hnc, hcm, hcs, htake⟩⟩
theorem Own.turn {e : TypeId} {sz n n' : Nat} {v v' : Value} {cs cs' : List Value} {hs : List Hp} (H : Own e sz v n cs hs) {E w w' : World} {ss : List (List Hp)} (hH : Has E w (hs :: ss))
  (ho : w'.ownsRow 0 e sz v' n' cs') (hg : w.grownBy w' v.ownBlock) (hl : v'.ownBlock = v.ownBlock ∨ v'.ownBlock = some w.heap.size) :
  ∃ hs', Own e sz v' n' cs' hs' ∧ Has E w' (hs' :: ss) := by
 have hdom : ∀ b, (∀ h ∈ hs, h b = none) → v.ownBlock ≠ some b := by
  intro b hb hv
  obtain ⟨_, ⟨rfl, _⟩ | ⟨b', cap, cur, rfl, rfl, _⟩⟩ := H
  · simp [Value.ownBlock] at hv
  ·
   simp [Value.ownBlock] at hv
   subst hv
   have := hb _ (List.mem_singleton.2 rfl)
   rw [Hp.one_at] at this; cases this
 have keep : ∀ b, b < w.heap.size → (∀ h ∈ hs, h b = none) → w'.heap[b]? = w.heap[b]? := fun b hb hn => hg.block b hb (fun e => hdom b hn e.symm)
 obtain ⟨hl', ⟨rfl, rfl⟩ | ⟨b, cap, cur, rfl, _, hb, hnc, hcm, hcs, htake⟩⟩ := ho
 ·
  refine ⟨[], ⟨hl', .inl ⟨rfl, rfl, rfl⟩⟩, ?_⟩
  refine Has0.write (an := hs) (an' := []) (hs := ss.flatten) hH hg.os hg.tape hg.output (by simp) (fun b _ => .inl (by simp)) (by simp) keep
 ·
  refine ⟨[Hp.one b (.cells cur e (0, 0))], ⟨hl', .inr ⟨b, cap, cur, rfl, rfl, hnc, hcm, hcs, htake⟩⟩, ?_⟩
  refine Has0.write (an := hs) (an' := [Hp.one b (.cells cur e (0, 0))]) (hs := ss.flatten) hH hg.os hg.tape hg.output (by simp) (fun k hk => ?_) ?_ keep
  ·
   by_cases hkb : k = b
   ·
    subst hkb
    rcases hl with hl | hl
    · exact absurd hl.symm (hdom k hk)
    · simp [Value.ownBlock] at hl; exact .inr (by omega)
   ·
    refine .inl fun h hh => ?_
    rw [List.mem_singleton.1 hh]; unfold Hp.one; rw [if_neg hkb]
  ·
   intro h hh k o hk
   rw [List.mem_singleton.1 hh] at hk
   obtain ⟨rfl, rfl⟩ := Hp.one_some hk
   exact hb
section ops
variable {P : Program} {ρ : Operand → Value} {E w : World} {ss : List (List Hp)} {K : Value → World → Prop} {dst : Option Tmp} {T : TypeId} {pos : String} {after : Array Edge} {g : Option (Nat × Bool)}
theorem o_append {x y : Operand} {t e : TypeId} {z v u : Value} {sz by_ n m : Nat} {cs ds : List Value} {hs L : List Hp} (ht : P.underlying t = some (.slice e)) (hi : TI P e z sz by_)
  (hz : z.cells.size = sz) (hsz : 0 < sz) (hx : ρ x = v) (ho : Own e sz v n cs hs) (hy : ρ y = u) (hu : Sl L sz u m ds) (H : Has E w (hs :: ss)) (hL : L ⊆ ss.flatten)
  (h1 : ∀ u ∈ ds, u.oneCell' = true) (hb : (n + m) * by_ ≤ 140737488355328) (h63 : n + m ≤ 9223372036854775807)
  (hK : ∀ v' hs' w', Own e sz v' (n + m) (cs ++ ds) hs' → Has E w' (hs' :: ss) → K v' w') :
  OK P ⟨dst, .call ⟨.builtin .append, #[x, y], #[t, t]⟩, T, pos, after, g⟩ ρ w K := by
 obtain ⟨i, hi, hiz, hisz, hiby⟩ := hi
 obtain ⟨p, cap, rfl, hnc, hcm, hl, hp⟩ := hu
 have hrow := ho.row H
 by_cases hm : m = 0
 ·
  subst hm
  have hds : ds = [] := by simpa using hl
  subst hds
  refine zV (v := v) (w' := w) ?_ (hK _ hs w (by simpa using ho) H)
  obtain ⟨hlc, ⟨rfl, rfl, rfl⟩ | ⟨b, cap', cur, rfl, rfl, hnc', _⟩⟩ := ho
  · cases p <;> simp [hx, hy, builtin, Builtin.append_, run_underlying ht, sizeOf, typeInfo, hi, Builtin.lenOf, Builtin.firstCells, loadCells, loadCellsFrom]
  · cases p <;> simp [hx, hy, builtin, Builtin.append_, run_underlying ht, sizeOf, typeInfo, hi, Builtin.lenOf, Builtin.firstCells, loadCells, loadCellsFrom, hnc', storeCells]
 ·
  obtain ⟨b, off, rfl, hc⟩ := hp (by omega)
  obtain ⟨v', w', hr, ho', hg, _, hloc⟩ := run_append_own_at (P := P) w 0 t T e i z sz by_ ht hi hiz hisz hiby hz hsz v n cs hrow ⟨b, off, none⟩ m cap ds hl
   (fun j u hj => by rw [add_lit]; exact H.cell (fun _ hx => List.mem_append_right _ (hL hx)) hc hj) h1 (by simpa [maxLen] using h63) hb (Nat.zero_le _)
  obtain ⟨hs', hown, hH⟩ := ho.turn H ho' hg hloc
  refine zV (v := v') (w' := w') ?_ (hK v' hs' w' hown hH)
  simp only [hx, hy, builtin, List.map_toArray, List.map_cons, List.map_nil, Sem.run_bind, hr, Result.andThen_ok, Sem.run_pure]
theorem o_make {x y : Operand} {t e : TypeId} {z : Value} {sz by_ : Nat} {kl kc : IntKind} {l c : Int} (ht : P.underlying t = some (.slice e)) (hi : TI P e z sz by_)
  (hx : ρ x = .int kl l) (hy : ρ y = .int kc c) (h0 : 0 ≤ l) (hlc : l ≤ c) (hb : (by_ : Int) * c ≤ 281474976710656) (h63 : c ≤ 9223372036854775807) (H : Has E w ss)
  (hK : ∀ v' hs' w', Own e sz v' l.toNat ((madeCells z.cells (c.toNat * sz)).toList.take (l.toNat * sz)) hs' → Has E w' (hs' :: ss) → K v' w') :
  OK P ⟨dst, .makeSlice t x y, T, pos, after, g⟩ ρ w K := by
 obtain ⟨i, hi, hiz, hisz, hiby⟩ := hi
 subst hisz hiby
 have hr := run_make (P := P) w t e i z ht hi hiz kl kc l c h0 hlc hb h63
 refine OK.val (run_v (by rw [hx, hy]; exact hr)) (hK _ [Hp.one w.heap.size (.cells (madeCells z.cells (c.toNat * i.size)) e (0, 0))] _ ⟨?_, .inr ⟨w.heap.size, c.toNat, _, rfl, rfl, by omega, by simp [maxLen]; omega, size_madeCells _ _, rfl⟩⟩ (H.alloc _))
 rw [List.length_take, Array.length_toList, size_madeCells, Nat.min_eq_left]
 exact Nat.mul_le_mul_right _ (by omega)
theorem made_rep (v : Value) (n : Nat) : (madeCells #[v] (n * 1)).toList.take (n * 1) = List.replicate n v := by
 rw [List.take_of_length_le (by simp [size_madeCells])]
 apply List.ext_getElem
 · simp [size_madeCells]
 ·
  intro i h1 h2
  simp [madeCells, Nat.mod_one]
theorem extract_S (a : List UInt8) (i j : Nat) : Value.string ((⟨a.toArray⟩ : ByteArray).extract i j) = S ((a.take j).drop i) := by
 unfold S
 congr 1
 apply ByteArray.ext
 rw [ByteArray.data_extract]
 simp [List.drop_take]
theorem run_ssl {t : TypeId} {a : List UInt8} {k k' : IntKind} {i j : Int} (ht : P.underlying t = some .string) (h0 : 0 ≤ i) (h1 : i ≤ j) (h2 : j ≤ a.length) :
  (Instr.sliceAt t (S a) (some (.int k i)) (some (.int k' j)) none).run P w = .ok (S ((a.take j.toNat).drop i.toNat)) w := by
 have hs := bytes_size a
 have e : ((j.toNat : Nat) : Int) = j := Int.toNat_of_nonneg (by omega)
 rw [run_sliceAt_string _ _ _ _ _ _ ht, ← extract_S]
 unfold S
 simp [Instr.slice, run_underlying ht, Instr.sliceBounds, run_sliceBound, hs, h0, h1, h2, e, (show 0 ≤ j by omega)]
theorem run_ssl_l {t : TypeId} {a : List UInt8} {k : IntKind} {i : Int} (ht : P.underlying t = some .string) (h0 : 0 ≤ i) (h1 : i ≤ a.length) :
  (Instr.sliceAt t (S a) (some (.int k i)) none none).run P w = .ok (S (a.drop i.toNat)) w := by
 have hs := bytes_size a
 rw [run_sliceAt_string _ _ _ _ _ _ ht]
 have := extract_S a i.toNat a.length
 rw [List.take_of_length_le (Nat.le_refl _)] at this
 rw [← this]
 unfold S
 simp [Instr.slice, run_underlying ht, Instr.sliceBounds, run_sliceBound, hs, h0, h1]
theorem run_ssl_h {t : TypeId} {a : List UInt8} {k : IntKind} {j : Int} (ht : P.underlying t = some .string) (h0 : 0 ≤ j) (h1 : j ≤ a.length) :
  (Instr.sliceAt t (S a) none (some (.int k j)) none).run P w = .ok (S (a.take j.toNat)) w := by
 have hs := bytes_size a
 rw [run_sliceAt_string _ _ _ _ _ _ ht]
 have := extract_S a 0 j.toNat
 rw [List.drop_zero] at this
 rw [← this]
 unfold S
 simp [Instr.slice, run_underlying ht, Instr.sliceBounds, run_sliceBound, hs, h0, h1]
theorem o_ssl {x y z : Operand} {t : TypeId} {a : List UInt8} {k k' : IntKind} {i j : Int} (ht : P.underlying t = some .string) (hx : ρ x = S a) (hy : ρ y = .int k i) (hz : ρ z = .int k' j)
  (h0 : 0 ≤ i) (h1 : i ≤ j) (h2 : j ≤ a.length) (hK : K (S ((a.take j.toNat).drop i.toNat)) w) : OK P ⟨dst, .slice t x (some y) (some z) none, T, pos, after, g⟩ ρ w K :=
 OK.val (run_v (by simp only [hx, hy, hz, Option.map_some, Option.map_none]; exact run_ssl ht h0 h1 h2)) hK
theorem o_ssl_l {x y : Operand} {t : TypeId} {a : List UInt8} {k : IntKind} {i : Int} (ht : P.underlying t = some .string) (hx : ρ x = S a) (hy : ρ y = .int k i)
  (h0 : 0 ≤ i) (h1 : i ≤ a.length) (hK : K (S (a.drop i.toNat)) w) : OK P ⟨dst, .slice t x (some y) none none, T, pos, after, g⟩ ρ w K :=
 OK.val (run_v (by simp only [hx, hy, Option.map_some, Option.map_none]; exact run_ssl_l ht h0 h1)) hK
theorem o_ssl_h {x z : Operand} {t : TypeId} {a : List UInt8} {k : IntKind} {j : Int} (ht : P.underlying t = some .string) (hx : ρ x = S a) (hz : ρ z = .int k j)
  (h0 : 0 ≤ j) (h1 : j ≤ a.length) (hK : K (S (a.take j.toNat)) w) : OK P ⟨dst, .slice t x none (some z) none, T, pos, after, g⟩ ρ w K :=
 OK.val (run_v (by simp only [hx, hz, Option.map_some, Option.map_none]; exact run_ssl_h ht h0 h1)) hK
theorem CellsAt.drop {L : List Hp} {b off k : Nat} {cs : List Value} (H : CellsAt L b off cs) : CellsAt L b (off + k) (cs.drop k) := H.sub fun j v hv => by rwa [List.getElem?_drop] at hv
theorem CellsAt.take {L : List Hp} {b off k : Nat} {cs : List Value} (H : CellsAt L b off cs) : CellsAt L b off (cs.take k) :=
 H.sub (k := 0) fun j v hv => by
  rw [List.getElem?_take] at hv
  split at hv
  · simpa using hv
  · cases hv
theorem Sl.part {L : List Hp} {sz : Nat} {p : Option Addr} {n cap : Nat} {cs : List Value} (H : Sl L sz (.slice p n cap) n cs) (i j : Nat) (hij : i ≤ j) (hj : j ≤ n) :
  Sl L sz (sliced p i j cap sz) (j - i) (((cs.take (j * sz)).drop (i * sz))) := by
 obtain ⟨p', cap', e, hnc, hcm, hl, hp⟩ := H
 cases e
 refine ⟨_, _, rfl, by omega, by omega, ?_, fun h => ?_⟩
 · rw [List.length_drop, List.length_take, hl, Nat.min_eq_left (Nat.mul_le_mul_right _ hj), Nat.sub_mul]
 ·
  obtain ⟨b, off, rfl, hc⟩ := hp (by omega)
  rw [if_neg (by omega)]
  refine ⟨b, off + i * sz, ?_, hc.take.drop⟩
  simp [add_lit]
theorem o_sl {x y z : Operand} {t e : TypeId} {zz : Value} {v : Value} {sz by_ n : Nat} {cs : List Value} {L : List Hp} {k k' : IntKind} {i j : Int} (ht : P.underlying t = some (.slice e)) (hi : TI P e zz sz by_)
  (hx : ρ x = v) (hs : Sl L sz v n cs) (hy : ρ y = .int k i) (hz : ρ z = .int k' j) (h0 : 0 ≤ i) (h1 : i ≤ j) (h2 : j ≤ n)
  (hK : ∀ v', Sl L sz v' (j.toNat - i.toNat) ((cs.take (j.toNat * sz)).drop (i.toNat * sz)) → K v' w) : OK P ⟨dst, .slice t x (some y) (some z) none, T, pos, after, g⟩ ρ w K := by
 obtain ⟨p, cap, rfl⟩ := hs.form
 refine OK.val (run_v ?_) (hK _ (hs.part i.toNat j.toNat (by omega) (by omega)))
 obtain ⟨_, _, e, hnc, _⟩ := hs
 cases e
 have e1 : P.elem t = e := by simp [Program.elem, ht]
 simp only [hx, hy, hz, Option.map_some, Option.map_none]
 rw [run_sliceAt_slice _ _ _ _ _ _ (by rw [e1]; exact ht), run_slice_lh _ _ _ _ _ (by rw [e1]; exact ht) _ _ _ _ h0 h1 (by omega), e1, hi.size]
 rfl
end ops
end Go.Q
namespace Go.Q
section control
variable {P : Program} {Q : Exit → Act → World → Prop} {w : World} {N : Nat} {r : Nat → Value}
theorem zt {p : Prop} [Decidable p] {c : Operand} {x y : Code} (hc : ev N r c = .bool (decide p)) (ht : p → x.wp P Q (fr N r) w) (hf : ¬ p → y.wp P Q (fr N r) w) : (Code.cond c x y).wp P Q (fr N r) w :=
 wp_cond_split (t := decide p) (by rw [fr_eval]; exact hc) (fun h => ht (of_decide_eq_true h)) (fun h => hf (of_decide_eq_false h))
theorem z7 {b : Bool} {c : Operand} {x y : Code} (hc : ev N r c = .bool b) (ht : b = true → x.wp P Q (fr N r) w) (hf : b = false → y.wp P Q (fr N r) w) : (Code.cond c x y).wp P Q (fr N r) w :=
 wp_cond_split (t := b) (by rw [fr_eval]; exact hc) ht hf
theorem zP {c : Operand} {x y : Code} {b : Bool} (hc : ev N r c = .bool b) (hb : b = true) (h : x.wp P Q (fr N r) w) : (Code.cond c x y).wp P Q (fr N r) w :=
 wp_cond_true (by rw [fr_eval, hc, hb]) h
theorem zK {c : Operand} {x y : Code} {b : Bool} (hc : ev N r c = .bool b) (hb : b = false) (h : y.wp P Q (fr N r) w) : (Code.cond c x y).wp P Q (fr N r) w :=
 wp_cond_false (by rw [fr_eval, hc, hb]) h
theorem zd {id : Nat} {ops : List Oper} (h : wpList P ops.toArray Q ops (fr N r) w) : (Code.region id ops.toArray false).wp P Q (fr N r) w := wp_region_lit h
theorem x_in {id : Nat} {a : Act} (h : Q .normal a w) : Exit.inBlock id Q (.exit id) a w := by simp only [Exit.inBlock, if_true]; exact h
theorem x_out {id id' : Nat} {a : Act} (hne : (id' == id) = false) (h : Q (.exit id') a w) : Exit.inBlock id Q (.exit id') a w := by
 have : id' ≠ id := by simpa using hne
 simp only [Exit.inBlock, if_neg this]; exact h
theorem zX {c : Code} (I : Nat → (Nat → Value) → World → Prop) (n₀ : Nat) (h₀ : I n₀ r w)
  (round : ∀ n r w, I n r w → c.wp P (Exit.then (fun a' w' => ∃ m r', a' = fr N r' ∧ m < n ∧ I m r' w') Q) (fr N r) w) : (Code.loop c).wp P Q (fr N r) w := by
 intro b k cs
 have key : ∀ n r w, I n r w →
   ∃ e a' w', Q e a' w' ∧ Arrives P (lone (b.at (fr N r) (.code c :: .inLoop c :: k)) cs w) b k cs e a' w' := by
  intro n
  induction n using Nat.strongRecOn with
  | _ n ih =>
   intro r w hI
   obtain ⟨e, a₁, w₁, hq, harr⟩ := round n r w hI b (.inLoop c :: k) cs
   cases e with
   | normal =>
    obtain ⟨m, r₁, rfl, hlt, hI₁⟩ := hq
    obtain ⟨e₂, a₂, w₂, hq₂, harr₂⟩ := ih m hlt r₁ w₁ hI₁
    exact ⟨e₂, a₂, w₂, hq₂, .of_steps (Steps.trans harr (.one step_inLoop)) harr₂⟩
   | exit id => exact ⟨_, a₁, w₁, hq, .pass (x := .inLoop c) rfl (fun _ _ => .inl (by simp)) harr⟩
   | goto l => exact ⟨_, a₁, w₁, hq, .pass (x := .inLoop c) rfl (fun _ _ => .inl (by simp)) harr⟩
   | ret => exact ⟨_, a₁, w₁, hq, .pass (x := .inLoop c) rfl (fun _ _ => .inl (by simp)) harr⟩
   | panic ch => exact ⟨_, a₁, w₁, hq, .pass (x := .inLoop c) rfl (fun _ _ => .inl (by simp)) harr⟩
   | outgrown => exact ⟨_, a₁, w₁, hq, .pass (x := .inLoop c) rfl (fun _ _ => .inl (by simp)) harr⟩
 obtain ⟨e, a', w', hq, harr⟩ := key n₀ r w h₀
 exact ⟨e, a', w', hq, .of_steps (.one step_loop) harr⟩
theorem c_end0 {fn : Func} {R : Ending → World → Prop} (hr : fn.results = #[]) (hR : R (.returned (.tuple #[])) w) : bodyPost P fn R .normal (fr N r) w :=
 bodyPost_end (results_none hr _ _ _) rfl hR
theorem getD_fr (t : Nat) : (fr N r).tmps.getD t undef = ev N r (.tmp t) := by rw [← fr_eval]; rfl
theorem zr {fn : Func} {R : Ending → World → Prop} {t : Tmp} {v : Value} (hr : fn.results = #[.tmp t]) (hv : ev N r (.tmp t) = v) (hR : R (.returned v) w) : bodyPost P fn R .ret (fr N r) w :=
 bodyPost_ret (v := v) (by rw [results_tmp hr, getD_fr, hv]) rfl hR
theorem ya {fn : Func} {R : Ending → World → Prop} {t u : Tmp} {v x : Value} (hr : fn.results = #[.tmp t, .tmp u]) (hv : ev N r (.tmp t) = v) (hx : ev N r (.tmp u) = x)
  (hR : R (.returned (.tuple #[v, x])) w) : bodyPost P fn R .ret (fr N r) w :=
 bodyPost_ret (v := .tuple #[v, x]) (by rw [results_tmp2 hr, getD_fr, getD_fr, hv, hx]) rfl hR
theorem c_ret3 {fn : Func} {R : Ending → World → Prop} {t u s : Tmp} {v x y : Value} (hr : fn.results = #[.tmp t, .tmp u, .tmp s]) (hv : ev N r (.tmp t) = v) (hx : ev N r (.tmp u) = x) (hy : ev N r (.tmp s) = y)
  (hR : R (.returned (.tuple #[v, x, y])) w) : bodyPost P fn R .ret (fr N r) w := by
 refine bodyPost_ret (v := .tuple #[v, x, y]) ?_ rfl hR
 have e : ∀ t, (fr N r).tmps[t]?.getD undef = ev N r (.tmp t) := fun t => by rw [← getD_fr, Array.getD_eq_getD_getElem?]
 simp [results, hr, e, ← hv, ← hx, ← hy]
theorem zs {f : FuncId} {fn : Func} {c : Code} {args : List Value} {R : Ending → World → Prop} {N : Nat} (hf : P.funcs[f]? = some fn) (hb : fn.body = some c) (hn : fn.ntmps = N) (hN : args.length ≤ N)
  (h : c.wp P (bodyPost P fn R) (fr N (base args)) w) : Calls P f args.toArray w R := by
 refine calls_of_wp hf hb ?_
 have e : ({ tmps := args.toArray ++ Array.replicate (fn.ntmps - args.toArray.size) undef, defers := [] } : Act) = fr N (base args) := by
  have : args.toArray ++ Array.replicate (fn.ntmps - args.toArray.size) undef = (fr N (base args)).tmps := by
   apply Array.ext_getElem?
   intro t
   rw [fr_at, hn, Array.getElem?_append]
   unfold base
   by_cases h1 : t < args.length
   · rw [if_pos (by simpa using h1), if_pos (by omega)]; simp [h1]
   ·
    rw [if_neg (by simpa using h1)]
    by_cases h2 : t < N
    · rw [if_pos h2]; simp [h1, Array.getElem?_replicate]; omega
    · rw [if_neg h2]; simp [Array.getElem?_replicate]; omega
  exact act_ext this rfl
 rw [e]; exact h
end control
theorem Has.all {E w : World} {ss : List (List Hp)} (H : Has E w ss) : Has E w [ss.flatten] := by unfold Has at *; simpa using H
theorem Has.of_all {E w : World} {ss : List (List Hp)} (H : Has E w [ss.flatten]) : Has E w ss := by unfold Has at *; simpa using H
theorem Has.all1 {E w : World} {s : List Hp} {ss : List (List Hp)} (H : Has E w (s :: ss)) : Has E w [s, ss.flatten] := by unfold Has at *; simpa using H
theorem Has.of_all1 {E w : World} {s : List Hp} {ss : List (List Hp)} (H : Has E w [s, ss.flatten]) : Has E w (s :: ss) := by unfold Has at *; simpa using H
theorem Has.all2 {E w : World} {s t : List Hp} {ss : List (List Hp)} (H : Has E w (s :: t :: ss)) : Has E w [s, t, ss.flatten] := by unfold Has at *; simpa using H
theorem Has.of_all2 {E w : World} {s t : List Hp} {ss : List (List Hp)} (H : Has E w [s, t, ss.flatten]) : Has E w (s :: t :: ss) := by unfold Has at *; simpa using H
theorem w64 {x : Int} (h0 : -9223372036854775808 ≤ x) (h1 : x ≤ 9223372036854775807) : IntKind.wrap .i64 x = x := by rw [IntKind.wrap_i64]; omega
theorem w_u8 (b : UInt8) : IntKind.wrap .i64 (b.toNat : Int) = b.toNat := w64 (by omega) (by have := b.toNat_lt; omega)
def iV (x : Int) : Value := .int .i64 x
def bV (b : UInt8) : Value := .int .u8 b.toNat
abbrev Ints (L : List Hp) (v : Value) (l : List Int) : Prop := Sl L 1 v l.length (l.map iV)
theorem Sl.le {L : List Hp} {sz n : Nat} {v : Value} {cs : List Value} (H : Sl L sz v n cs) : n ≤ 9223372036854775807 := by
 obtain ⟨p, cap, e, a, b, c⟩ := H; omega
theorem zN {α : Type} {l : List α} {k : Nat} (h : k < l.length) : ∃ x, l[k]? = some x := ⟨_, List.getElem?_eq_getElem h⟩
theorem zS {α : Type} {l : List α} {k : Nat} {x : α} (h : l[k]? = some x) : l.take (k + 1) = l.take k ++ [x] := by
 rw [List.take_add_one, h]; rfl
def Callable (P : Program) (f : FuncId) : Prop := ∃ fn, P.funcs[f]? = some fn ∧ fn.body.isNone = false ∧ (fn.name == "runtime.NumGoroutine") = false
section ops
variable {P : Program} {ρ : Operand → Value} {E w : World} {ss : List (List Hp)} {K : Value → World → Prop} {dst : Option Tmp} {T : TypeId} {pos : String} {after : Array Edge} {g : Option (Nat × Bool)}
theorem zk {c : Operand} {f : FuncId} {first captured : Array Value} {args : Array Operand} {ts : Array TypeId} {vs : Array Value} {R : Ending → World → Prop} (hf : Callable P f)
  (hv : ρ c = .func (.func f) first captured) (hargs : first ++ args.map ρ ++ captured = vs) (hc : Calls P f vs w R)
  (hK : ∀ e w', R e w' → ∃ v, e = .returned v ∧ K v w') : OK P ⟨dst, .call ⟨.value c, args, ts⟩, T, pos, after, g⟩ ρ w K := by
 obtain ⟨fn, h1, h2, h3⟩ := hf
 exact o_call h1 h2 h3 hv hargs hc hK
theorem z6 {α : Type} {f : α → Value} {l : List α} {a : α} {x y : Operand} {t e : TypeId} {L : List Hp} {by_ : Nat} {v z : Value} {k : IntKind} {i : Int} (ht : P.underlying t = some (.slice e)) (hi : TI P e z 1 by_)
  (hx : ρ x = v) (hs : Sl L 1 v l.length (l.map f)) (hy : ρ y = .int k i) (h0 : 0 ≤ i) (ha : l[i.toNat]? = some a) (hK : ∀ b off, CellsAt L b off [f a] → K (.pointer (some ⟨b, off, none⟩)) w) :
  OK P ⟨dst, .indexAddr t x y, T, pos, after, g⟩ ρ w K := by
 have hlt : i.toNat < l.length := (List.getElem?_eq_some_iff.1 ha).1
 refine o_indexAddr ht hi hx hs hy h0 (by omega) fun b off hc => hK b off ?_
 rw [drop_take_map f l _ hlt] at hc
 have := (List.getElem?_eq_some_iff.1 ha).2
 rwa [this] at hc
end ops
theorem ze {K : Act → World → Prop} {Q : Exit → Act → World → Prop} {a : Act} {w : World} (h : K a w) : Exit.then K Q .normal a w := h
theorem zy {K : Act → World → Prop} {Q : Exit → Act → World → Prop} {a : Act} {w : World} {id : Nat} (h : Q (.exit id) a w) : Exit.then K Q (.exit id) a w := h
theorem zx {K : Act → World → Prop} {Q : Exit → Act → World → Prop} {a : Act} {w : World} (h : Q .ret a w) : Exit.then K Q .ret a w := h
theorem zC {id : Nat} {Q : Exit → Act → World → Prop} {a : Act} {w : World} (h : Q .normal a w) : Exit.inBlock id Q .normal a w := h
theorem zZ {id : Nat} {Q : Exit → Act → World → Prop} {a : Act} {w : World} (h : Q .ret a w) : Exit.inBlock id Q .ret a w := h
end Go.Q
namespace Go.Q
def depsOf (ops : List Oper) (i : Nat) : List Nat := match ops[i]? with
 | some o => o.after.toList.filterMap fun e => if Region.binds .any e then some e.on else none
 | none => []
def anc (ops : List Oper) : Nat → Nat → Nat → Bool
 | 0, _, _ => false
 | f + 1, i, j => (depsOf ops i).any fun d => d == j || anc ops f d j
def slot (r : Nat → Value) (o : Oper) : Value := match o.dst with | some t => r t | none => undef
def flowOk (ops : List Oper) : Bool :=
 ((List.range ops.length).all fun i => match ops[i]? with
  | some o => o.guard.isNone && (depsOf ops i).all (fun d => decide (d < i)) && (List.range ops.length).all fun j => j == i || match ops[j]? with
   | some o' => o.dst.isNone || o'.dst != o.dst
   | none => true
  | none => true)
def puts (vs : Nat → Value) : List Oper → Nat → (Nat → Value) → (Nat → Value)
 | [], _, r => r
 | o :: l, i, r => puts vs l (i + 1) (match o.dst with | some t => upd r t (vs i) | none => r)
theorem puts_old (vs : Nat → Value) (l : List Oper) : ∀ (i : Nat) (r : Nat → Value) (t : Nat), (∀ o ∈ l, o.dst ≠ some t) → puts vs l i r t = r t := by
 induction l with
 | nil => intro i r t _; rfl
 | cons o l ih =>
  intro i r t h
  rw [puts, ih _ _ _ (fun o' ho => h o' (List.mem_cons_of_mem _ ho))]
  have := h o (List.mem_cons_self ..)
  cases hd : o.dst with
  | none => rfl
  | some d => rw [hd] at this; exact upd_ne _ _ (fun e => this (by rw [e]))
theorem puts_new (vs : Nat → Value) (l : List Oper) : ∀ (i k : Nat) (r : Nat → Value) (o : Oper) (t : Nat), l[k]? = some o → o.dst = some t →
  (∀ j o', l[j]? = some o' → j ≠ k → o'.dst ≠ some t) → puts vs l i r t = vs (i + k) := by
 induction l with
 | nil => intro i k r o t h; simp at h
 | cons o l ih =>
  intro i k r o' t h hd hne
  cases k with
  | zero =>
   simp at h; subst h
   rw [puts, hd, puts_old]
   · simp only [Nat.add_zero]; exact upd_same _ _ _
   ·
    intro o' ho
    obtain ⟨j, hj⟩ := List.getElem?_of_mem ho
    exact hne (j + 1) o' (by simpa using hj) (by omega)
  | succ k =>
   rw [puts, ih (i + 1) k _ o' t (by simpa using h) hd (fun j o'' hj hjk => hne (j + 1) o'' (by simpa using hj) (by omega))]
   congr 1; omega
theorem flowOk_spec {ops : List Oper} (h : flowOk ops = true) {i : Nat} {o : Oper} (ho : ops[i]? = some o) :
  o.guard = none ∧ (∀ d ∈ depsOf ops i, d < i) ∧ ∀ j o' t, ops[j]? = some o' → j ≠ i → o.dst = some t → o'.dst ≠ some t := by
 unfold flowOk at h
 rw [List.all_eq_true] at h
 have hi : i < ops.length := (List.getElem?_eq_some_iff.1 ho).1
 have h1 := h i (List.mem_range.2 hi)
 simp only [ho, Bool.and_eq_true, List.all_eq_true, decide_eq_true_eq] at h1
 obtain ⟨⟨hg, hd⟩, hj⟩ := h1
 refine ⟨by simpa using hg, hd, fun j o' t hj' hne ht => ?_⟩
 have := hj j (List.mem_range.2 (List.getElem?_eq_some_iff.1 hj').1)
 simp only [hj', ht, Option.isNone_some, Bool.false_or, Bool.or_eq_true, beq_iff_eq, bne_iff_ne] at this
 rcases this with h | h
 · exact absurd h hne
 · exact h
theorem anc_trans {ops : List Oper} (_h : flowOk ops = true) {listed : Array Bool} (hc : ∀ i, listed.getD i false = true → ∀ d ∈ depsOf ops i, listed.getD d false = true) :
  ∀ f i j, anc ops f i j = true → (∀ d ∈ depsOf ops i, listed.getD d false = true) → listed.getD j false = true := by
 intro f
 induction f with
 | zero => intro i j h; simp [anc] at h
 | succ f ih =>
  intro i j h hd
  rw [anc, List.any_eq_true] at h
  obtain ⟨d, hdm, hh⟩ := h
  rw [Bool.or_eq_true] at hh
  rcases hh with e | e
  · rw [← beq_iff_eq.1 e]; exact hd d hdm
  · exact ih d j e (hc d (hd d hdm))
theorem mem_depsOf {ops : List Oper} {i : Nat} {o : Oper} (ho : ops[i]? = some o) {e : Edge} (he : e ∈ o.after) (hb : Region.binds .any e = true) : e.on ∈ depsOf ops i := by
 unfold depsOf
 rw [ho]
 exact List.mem_filterMap.2 ⟨e, by simpa using he, by rw [if_pos hb]⟩
structure Turn (E : World) (ops : List Oper) (F : List (List Hp)) (C : Nat → List Hp) (Tp : Nat → Value → List Hp → Prop) (N : Nat) (r : Nat → Value) (i : Nat) (r' : Nat → Value) (w : World) (G : List (List Hp)) (hs : Nat → List Hp) : Prop where
 has : Has E w (C i :: G)
 fr : ∀ s ∈ F, s ⊆ G.flatten
 done : ∀ j o, ops[j]? = some o → anc ops ops.length i j = true → Tp j (slot r' o) (hs j) ∧ hs j ⊆ G.flatten
 todo : ∀ j, anc ops ops.length j i = true → C j ⊆ G.flatten
 old : ∀ t, (∀ j o, ops[j]? = some o → o.dst = some t → j = i ∨ anc ops ops.length j i = true) → r' t = r t
 each : ∀ j o, ops[j]? = some o → j ≠ i → C j ⊆ G.flatten ∨ (∃ v, Tp j v (hs j)) ∧ hs j ⊆ G.flatten
theorem c_flow {P : Program} {Q : Exit → Act → World → Prop} {E w : World} {N : Nat} {r : Nat → Value} {id : Nat} {ops : List Oper} (F : List (List Hp)) (C : Nat → List Hp) (Tp : Nat → Value → List Hp → Prop)
  (hm : P.follows .mixedOrders = true) (hok : flowOk ops = true) (H : Has E w (F ++ (List.range ops.length).map C))
  (step : ∀ i o, ops[i]? = some o → ∀ r' w' G hs, Turn E ops F C Tp N r i r' w' G hs → OK P o (ev N r') w' fun v w'' => ∃ h', Tp i (match o.dst with | some _ => v | none => undef) h' ∧ Has E w'' (h' :: G))
  (fin : ∀ (vs : Nat → Value) (hs : Nat → List Hp) w', (∀ i o, ops[i]? = some o → Tp i (vs i) (hs i)) → Has E w' (F ++ (List.range ops.length).map hs) → Q .normal (Go.Q.fr N (puts vs ops 0 r)) w') :
  (Code.region id ops.toArray true).wp P Q (Go.Q.fr N r) w := by
 refine wp_region_any hm ?_
 let Inv : Array Bool → Act → World → Prop := fun listed a w => listed.size = ops.length ∧ (∀ i, listed.getD i false = true → ∀ d ∈ depsOf ops i, listed.getD d false = true) ∧
  ∃ r' hs, a = Go.Q.fr N r' ∧ Has E w (F ++ (List.range ops.length).map hs) ∧ (∀ i o, ops[i]? = some o → if listed.getD i false = true then o.dst.isSome = true ∧ Tp i (slot r' o) (hs i) ∨ o.dst = none ∧ Tp i undef (hs i) else hs i = C i) ∧
  (∀ t, (∀ i o, ops[i]? = some o → o.dst = some t → listed.getD i false = false) → r' t = r t)
 have key : ∀ fuel listed a w, Inv listed a w → (List.range ops.length).countP (fun i => !listed.getD i false) ≤ fuel → wpAny P .any ops.toArray Q fuel listed a w := by
  have ready0 : ∀ listed : Array Bool, listed.size = ops.length → Region.ready .any ops.toArray listed = [] → ∀ i, i < ops.length → listed.getD i false = true := by
   intro listed hsz hr i
   induction i using Nat.strongRecOn with
   | _ i ih =>
    intro hi
    cases hl : listed.getD i false with
    | true => rfl
    | false =>
     exfalso
     obtain ⟨o, ho⟩ : ∃ o, ops[i]? = some o := ⟨_, List.getElem?_eq_getElem hi⟩
     have : i ∈ Region.ready .any ops.toArray listed := by
      refine mem_ready.2 ⟨?_, o, by simpa using ho, fun e he hb => ?_⟩
      ·
       have : i < listed.size := by omega
       simp [this] at hl ⊢; exact hl
      ·
       have hd := mem_depsOf ho he hb
       have hlt := (flowOk_spec hok ho).2.1 _ hd
       exact ih _ hlt (by omega)
     rw [hr] at this; cases this
  have fin' : ∀ listed a w, Inv listed a w → Region.ready .any ops.toArray listed = [] → Q .normal a w := by
   rintro listed a w ⟨hsz, _, r', hs, rfl, hH, hT, hold⟩ hr
   have hall := ready0 listed hsz hr
   let vs : Nat → Value := fun i => match ops[i]? with | some o => slot r' o | none => undef
   have e : Go.Q.fr N r' = Go.Q.fr N (puts vs ops 0 r) := by
    refine fr_congr fun t _ => ?_
    by_cases hex : ∃ (i : Nat) (o : Oper), ops[i]? = some o ∧ o.dst = some t
    ·
     obtain ⟨i, o, ho, hd⟩ := hex
     rw [puts_new vs ops 0 i r o t ho hd (fun j o' hj hne => (flowOk_spec hok ho).2.2 j o' t hj hne hd)]
     simp [vs, ho, slot, hd]
    ·
     rw [puts_old vs ops 0 r t (fun o ho hd => by obtain ⟨j, hj⟩ := List.getElem?_of_mem ho; exact hex ⟨j, o, hj, hd⟩)]
     exact hold t (fun i o ho hd => absurd ⟨i, o, ho, hd⟩ hex)
   rw [e]
   refine fin vs hs w (fun i o ho => ?_) hH
   have := hT i o ho
   rw [if_pos (hall i (List.getElem?_eq_some_iff.1 ho).1)] at this
   simp only [vs, ho]
   rcases this with ⟨_, h⟩ | ⟨hn, h⟩
   · exact h
   · unfold slot; rw [hn]; exact h
  intro fuel
  induction fuel with
  | zero =>
   intro listed a w hI hc
   have hr : Region.ready .any ops.toArray listed = [] := by
    rw [List.eq_nil_iff_forall_not_mem]
    intro i hi
    obtain ⟨h0, o, ho, _⟩ := mem_ready.1 hi
    have hlt : i < ops.length := by simpa using (Array.getElem?_eq_some_iff.1 ho).1
    have : listed.getD i false = false := by
     have hs : i < listed.size := by rw [hI.1]; exact hlt
     simp [hs] at h0 ⊢; exact h0
    have hp : 0 < (List.range ops.length).countP (fun i => !listed.getD i false) := List.countP_pos_iff.2 ⟨i, List.mem_range.2 hlt, by rw [this]; rfl⟩
    omega
   exact ⟨hr, fin' listed a w hI hr⟩
  | succ fuel ih =>
   intro listed a w hI hc
   refine ⟨fin' listed a w hI, fun i hi => ?_⟩
   obtain ⟨hsz, hcl, r', hs, rfl, hH, hT, hold⟩ := hI
   obtain ⟨h0, o, ho', hdone⟩ := mem_ready.1 hi
   have ho : ops[i]? = some o := by simpa using ho'
   have hlt : i < ops.length := (List.getElem?_eq_some_iff.1 ho).1
   have hli : listed.getD i false = false := by
    have hs : i < listed.size := by omega
    simp [hs] at h0 ⊢; exact h0
   obtain ⟨hg, hdlt, hdist⟩ := flowOk_spec hok ho
   have hdeps : ∀ d ∈ depsOf ops i, listed.getD d false = true := by
    intro d hd
    unfold depsOf at hd
    rw [ho] at hd
    obtain ⟨e, he, heq⟩ := List.mem_filterMap.1 hd
    split at heq
    · cases heq; exact hdone e (by simpa using he) (by assumption)
    · cases heq
   let G : List (List Hp) := F ++ ((List.range i).map hs ++ (List.range' (i + 1) (ops.length - (i + 1))).map hs)
   have hsplit : List.range ops.length = List.range i ++ i :: List.range' (i + 1) (ops.length - (i + 1)) := by
    rw [List.range_eq_range', List.range_eq_range', show i :: List.range' (i + 1) (ops.length - (i + 1)) = List.range' i (ops.length - i) from by
     rw [show ops.length - i = (ops.length - (i + 1)) + 1 by omega, List.range'_succ]]
    have := List.range'_append_1 (s := 0) (m := i) (n := ops.length - i)
    rw [Nat.zero_add] at this
    rw [this]; congr 1; omega
   have mapsplit : ∀ f : Nat → List Hp, (List.range ops.length).map f = (List.range i).map f ++ f i :: (List.range' (i + 1) (ops.length - (i + 1))).map f := by
    intro f; rw [hsplit]; simp
   have hperm : ∀ f : Nat → List Hp, (F ++ (List.range ops.length).map f).Perm (f i :: (F ++ ((List.range i).map f ++ (List.range' (i + 1) (ops.length - (i + 1))).map f))) := by
    intro f
    rw [mapsplit f, ← List.append_assoc, ← List.append_assoc]
    exact List.perm_middle
   have hhi : hs i = C i := by have := hT i o ho; rw [if_neg (by rw [hli]; simp)] at this; exact this
   have inG : ∀ j, j < ops.length → j ≠ i → hs j ∈ G := by
    intro j hj hne
    refine List.mem_append_right _ ?_
    rcases Nat.lt_or_gt_of_ne hne with h | h
    · exact List.mem_append_left _ (List.mem_map.2 ⟨j, List.mem_range.2 h, rfl⟩)
    · exact List.mem_append_right _ (List.mem_map.2 ⟨j, by rw [List.mem_range'_1]; omega, rfl⟩)
   have subG : ∀ s ∈ G, s ⊆ G.flatten := fun s hs' x hx => List.mem_flatten.2 ⟨s, hs', hx⟩
   have ancNe : ∀ j, listed.getD j false = true → j ≠ i := fun j hj e => by rw [e, hli] at hj; cases hj
   have turn : Turn E ops F C Tp N r i r' w G hs := by
    refine ⟨?_, fun s hs' => subG s (List.mem_append_left _ hs'), fun j oj hoj hanc => ?_, fun j hanc => ?_, fun t ht => ?_, fun j oj hoj hne => ?_⟩
    · rw [← hhi]; exact hH.perm (hperm hs).symm
    ·
     have hl := anc_trans hok hcl _ i j hanc hdeps
     refine ⟨?_, subG _ (inG j (List.getElem?_eq_some_iff.1 hoj).1 (ancNe j hl))⟩
     have := hT j oj hoj
     rw [if_pos hl] at this
     rcases this with ⟨_, h⟩ | ⟨hn, h⟩
     · exact h
     · unfold slot; rw [hn]; exact h
    ·
     cases hj : ops[j]? with
     | none =>
      exfalso
      unfold anc at hanc
      split at hanc
      · cases hanc
      · simp [depsOf, hj] at hanc
     | some oj =>
      have hnl : listed.getD j false = false := by
       cases hl : listed.getD j false with
       | false => rfl
       | true =>
        have := anc_trans hok hcl _ j i hanc (hcl j hl)
        rw [hli] at this; cases this
      have hjl := (List.getElem?_eq_some_iff.1 hj).1
      have hne : j ≠ i := by
       rintro rfl
       have := anc_trans hok hcl _ j j hanc hdeps
       rw [hli] at this; cases this
      have := hT j oj hj
      rw [if_neg (by rw [hnl]; simp)] at this
      rw [← this]; exact subG _ (inG j hjl hne)
    ·
     refine hold t (fun j oj hoj hd => ?_)
     rcases ht j oj hoj hd with rfl | hanc
     · exact hli
     ·
      cases hl : listed.getD j false with
      | false => rfl
      | true =>
       have := anc_trans hok hcl _ j i hanc (hcl j hl)
       rw [hli] at this; cases this
    ·
     have hG := subG _ (inG j (List.getElem?_eq_some_iff.1 hoj).1 hne)
     have := hT j oj hoj
     cases hl : listed.getD j false with
     | true =>
      rw [if_pos hl] at this
      rcases this with ⟨_, h⟩ | ⟨_, h⟩
      · exact .inr ⟨⟨_, h⟩, hG⟩
      · exact .inr ⟨⟨_, h⟩, hG⟩
     | false =>
      rw [if_neg (by rw [hl]; simp)] at this
      rw [← this]; exact .inl hG
   have hstep := step i o ho r' w G hs turn
   unfold wpOp
   simp only [show ops.toArray[i]? = some o from ho']
   rw [if_pos (by simp [Region.wanted, hg])]
   refine .inl (OK.wp ?_)
   rw [fr_eval]
   refine hstep.mono fun v w'' ⟨h', hTi, hH'⟩ => ?_
   refine ih _ _ _ ⟨by simpa using hsz, ?_, ?_⟩ ?_
   ·
    intro j hj d hd
    by_cases hji : i = j
    · subst hji; exact getD_set_true (hdeps d hd)
    ·
     rw [getD_set_ne false hji] at hj
     exact getD_set_true (hcl j hj d hd)
   ·
    let hs' : Nat → List Hp := fun j => if j = i then h' else hs j
    have hsG : F ++ ((List.range i).map hs' ++ (List.range' (i + 1) (ops.length - (i + 1))).map hs') = G := by
     have e1 : (List.range i).map hs' = (List.range i).map hs := List.map_congr_left fun j hj => by
      have := List.mem_range.1 hj; simp only [hs']; rw [if_neg (by omega)]
     have e2 : (List.range' (i + 1) (ops.length - (i + 1))).map hs' = (List.range' (i + 1) (ops.length - (i + 1))).map hs := List.map_congr_left fun j hj => by
      have := List.mem_range'_1.1 hj; simp only [hs']; rw [if_neg (by omega)]
     rw [e1, e2]
    have hH2 : Has E w'' (F ++ (List.range ops.length).map hs') := by
     refine hH'.perm ((hperm hs').trans ?_)
     rw [hsG]
     simp [hs']
    have hset : ∀ j, j ≠ i → (listed.setIfInBounds i true).getD j false = listed.getD j false := fun j hj => getD_set_ne false (Ne.symm hj)
    have hseti : (listed.setIfInBounds i true).getD i false = true := by
     have : i < listed.size := by omega
     simp [this]
    cases hd : o.dst with
    | none =>
     refine ⟨r', hs', by rw [fr_put_none], hH2, fun j oj hoj => ?_, fun t ht => hold t fun j oj hoj hdj => ?_⟩
     ·
      by_cases hji : j = i
      ·
       subst hji
       rw [ho] at hoj; cases hoj
       rw [if_pos hseti]
       rw [hd] at hTi
       exact .inr ⟨hd, by simpa [hs'] using hTi⟩
      ·
       rw [hset j hji]
       have := hT j oj hoj
       simpa [hs', hji] using this
     ·
      by_cases hji : j = i
      · subst hji; exact hli
      · have := ht j oj hoj hdj; rwa [hset j hji] at this
    | some d =>
     refine ⟨upd r' d v, hs', by rw [fr_put], hH2, fun j oj hoj => ?_, fun t ht => ?_⟩
     ·
      by_cases hji : j = i
      ·
       subst hji
       rw [ho] at hoj; cases hoj
       rw [if_pos hseti]
       refine .inl ⟨by rw [hd]; rfl, ?_⟩
       rw [hd] at hTi
       simp only [slot, hd, upd_same, hs', if_true]; exact hTi
      ·
       rw [hset j hji]
       have := hT j oj hoj
       have hne : oj.dst ≠ some d := hdist j oj d hoj hji hd
       have hsl : slot (upd r' d v) oj = slot r' oj := by
        unfold slot
        cases hdj : oj.dst with
        | none => rfl
        | some t => exact upd_ne _ _ (fun e => hne (by rw [hdj, e]))
       simpa [hs', hji, hsl] using this
     ·
      have hne : t ≠ d := by
       rintro rfl
       have := ht i o ho hd
       rw [hseti] at this; cases this
      rw [upd_ne _ _ hne]
      refine hold t fun j oj hoj hdj => ?_
      by_cases hji : j = i
      · subst hji; exact hli
      · have := ht j oj hoj hdj; rwa [hset j hji] at this
   ·
    have : (List.range ops.length).countP (fun j => !(listed.setIfInBounds i true).getD j false) < (List.range ops.length).countP (fun j => !listed.getD j false) := by
     have hset : ∀ j, j ≠ i → (listed.setIfInBounds i true).getD j false = listed.getD j false := fun j hj => getD_set_ne false (Ne.symm hj)
     have hseti : (listed.setIfInBounds i true).getD i false = true := by
      have : i < listed.size := by omega
      simp [this]
     rw [hsplit, List.countP_append, List.countP_cons, List.countP_append, List.countP_cons, hseti, hli]
     have e1 : (List.range i).countP (fun j => !(listed.setIfInBounds i true).getD j false) = (List.range i).countP (fun j => !listed.getD j false) :=
      List.countP_congr fun j hj => by have := List.mem_range.1 hj; rw [hset j (by omega)]
     have e2 : (List.range' (i + 1) (ops.length - (i + 1))).countP (fun j => !(listed.setIfInBounds i true).getD j false) = (List.range' (i + 1) (ops.length - (i + 1))).countP (fun j => !listed.getD j false) :=
      List.countP_congr fun j hj => by have := List.mem_range'_1.1 hj; rw [hset j (by omega)]
     rw [e1, e2]; simp
    omega
 have h0 : Inv (Array.replicate ops.toArray.size false) (Go.Q.fr N r) { w with drawn := w.drawn + 1 } := by
  have hf : ∀ i, (Array.replicate ops.toArray.size false).getD i false = false := by
   intro i; by_cases h : i < ops.length <;> simp [h]
  refine ⟨by simp, fun i hi => ?_, r, C, rfl, H.drew _, fun i o _ => ?_, fun _ _ => rfl⟩
  · rw [hf] at hi; cases hi
  · rw [if_neg (by rw [hf]; simp)]
 refine key _ _ _ _ h0 ?_
 refine Nat.le_trans List.countP_le_length (by simp)
def oldB (ops : List Oper) (i t : Nat) : Bool := (List.range ops.length).all fun j => match ops[j]? with
 | some o => o.dst != some t || j == i || anc ops ops.length j i
 | none => true
theorem Turn.was {E : World} {ops : List Oper} {F : List (List Hp)} {C : Nat → List Hp} {Tp : Nat → Value → List Hp → Prop} {N : Nat} {r : Nat → Value} {i : Nat} {r' : Nat → Value} {w : World} {G : List (List Hp)} {hs : Nat → List Hp}
  (H : Turn E ops F C Tp N r i r' w G hs) (t : Nat) (h : oldB ops i t = true) : r' t = r t := by
 refine H.old t fun j o ho hd => ?_
 unfold oldB at h
 rw [List.all_eq_true] at h
 have := h j (List.mem_range.2 (List.getElem?_eq_some_iff.1 ho).1)
 simp only [ho, Bool.or_eq_true, bne_iff_ne, beq_iff_eq] at this
 rcases this with (h | h) | h
 · exact absurd hd h
 · exact .inl h
 · exact .inr h
theorem flow_has {E w : World} {F cs : List (List Hp)} {C : Nat → List Hp} {n : Nat} (H : Has E w (F ++ cs)) (h : ((List.range n).map C).flatten = cs.flatten) : Has E w (F ++ (List.range n).map C) := by
 unfold Has at *; rw [List.flatten_append, h, ← List.flatten_append]; exact H
theorem flow_back {E w : World} {F cs : List (List Hp)} {C : Nat → List Hp} {n : Nat} (H : Has E w (F ++ (List.range n).map C)) (h : ((List.range n).map C).flatten = cs.flatten) : Has E w (F ++ cs) := by
 unfold Has at *; rw [List.flatten_append, ← h, ← List.flatten_append]; exact H
theorem zW {α : Type} {f : α → Value} {l : List α} {b : Nat} {c : Array Value} {T : TypeId} {g : Nat × Nat} {n : Nat} (hc : c.toList = l.map f) (hn : l.length = n) (hm : n ≤ 9223372036854775807) :
  Sl [Hp.one b (.cells c T g)] 1 (.slice (some ⟨b, 0, none⟩) n n) l.length (l.map f) := by
 subst hn
 refine ⟨_, _, rfl, Nat.le_refl _, hm, by simp, fun _ => ⟨b, 0, rfl, CellsAt.one ?_⟩⟩
 rw [hc]; simp only [List.drop_zero]; exact List.take_of_length_le (by simp)
theorem sub_l {s : List Hp} {G : List (List Hp)} : s ⊆ (s :: G).flatten := fun _ hx => by simp only [List.flatten_cons]; exact List.mem_append_left _ hx
section args
variable {ρ : Operand → Value} {a b c d e f : Operand} {u v x y z t : Value}
theorem args0 : #[] ++ (#[] : Array Operand).map ρ ++ #[] = #[] := by simp
theorem zI (h1 : ρ a = u) : #[] ++ #[a].map ρ ++ #[] = #[u] := by simp [*]
theorem zF (h1 : ρ a = u) (h2 : ρ b = v) : #[] ++ #[a, b].map ρ ++ #[] = #[u, v] := by simp [*]
theorem args3 (h1 : ρ a = u) (h2 : ρ b = v) (h3 : ρ c = x) : #[] ++ #[a, b, c].map ρ ++ #[] = #[u, v, x] := by simp [*]
theorem args4 (h1 : ρ a = u) (h2 : ρ b = v) (h3 : ρ c = x) (h4 : ρ d = y) : #[] ++ #[a, b, c, d].map ρ ++ #[] = #[u, v, x, y] := by simp [*]
theorem args5 (h1 : ρ a = u) (h2 : ρ b = v) (h3 : ρ c = x) (h4 : ρ d = y) (h5 : ρ e = z) : #[] ++ #[a, b, c, d, e].map ρ ++ #[] = #[u, v, x, y, z] := by simp [*]
theorem parts0 : (#[] : Array (Nat × Operand)).map (fun (i, x) => (i, ρ x)) = #[] := by simp
theorem yb {i : Nat} (h1 : ρ a = u) : #[(i, a)].map (fun (i, x) => (i, ρ x)) = #[(i, u)] := by simp [*]
theorem parts2 {i j : Nat} (h1 : ρ a = u) (h2 : ρ b = v) : #[(i, a), (j, b)].map (fun (i, x) => (i, ρ x)) = #[(i, u), (j, v)] := by simp [*]
theorem parts3 {i j k : Nat} (h1 : ρ a = u) (h2 : ρ b = v) (h3 : ρ c = x) : #[(i, a), (j, b), (k, c)].map (fun (i, x) => (i, ρ x)) = #[(i, u), (j, v), (k, x)] := by simp [*]
theorem parts4 {i j k l : Nat} (h1 : ρ a = u) (h2 : ρ b = v) (h3 : ρ c = x) (h4 : ρ d = y) : #[(i, a), (j, b), (k, c), (l, d)].map (fun (i, x) => (i, ρ x)) = #[(i, u), (j, v), (k, x), (l, y)] := by simp [*]
theorem parts5 {i j k l m : Nat} (h1 : ρ a = u) (h2 : ρ b = v) (h3 : ρ c = x) (h4 : ρ d = y) (h5 : ρ e = z) : #[(i, a), (j, b), (k, c), (l, d), (m, e)].map (fun (i, x) => (i, ρ x)) = #[(i, u), (j, v), (k, x), (l, y), (m, z)] := by simp [*]
end args
def by8 (x : Int) : UInt8 := UInt8.ofNat (x % 256).toNat
theorem wrap_by8 (x : Int) : IntKind.wrap .u8 x = ((by8 x).toNat : Int) := by
 unfold by8
 have h0 : 0 ≤ x % 256 := Int.emod_nonneg _ (by omega)
 have h1 : x % 256 < 256 := Int.emod_lt_of_pos _ (by omega)
 rw [UInt8.toNat_ofNat']
 simp only [IntKind.wrap, IntKind.bits, IntKind.signed]
 have : (x % 256).toNat % 2 ^ 8 = (x % 256).toNat := Nat.mod_eq_of_lt (by omega)
 rw [this]
 simp
 omega
theorem Has.first {E w : World} {ss ts : List (List Hp)} (H : Has E w ss) (n : Nat) (h : ss.take n = ts) : Has E w ts := h ▸ H.sub (List.take_sublist _ _)
theorem Has.nil {E w : World} {ss : List (List Hp)} (H : Has E w ss) : Has E w ([] :: ss) := by unfold Has at *; simpa using H
theorem not_dec {p : Prop} [Decidable p] : (!decide p) = decide (¬ p) := by simp
theorem sl_nil {L : List Hp} (sz : Nat) : Sl L sz (.slice none 0 0) 0 [] := ⟨none, 0, rfl, Nat.le_refl _, by omega, by simp, fun h => by omega⟩
def sV (l : List UInt8) : Value := S l
theorem one_bV (l : List UInt8) : ∀ u ∈ l.map bV, u.oneCell' = true := by intro u hu; obtain ⟨x, _, rfl⟩ := List.mem_map.1 hu; rfl
theorem one_sV (l : List (List UInt8)) : ∀ u ∈ l.map sV, u.oneCell' = true := by intro u hu; obtain ⟨x, _, rfl⟩ := List.mem_map.1 hu; rfl
theorem Own.app {α : Type} {f : α → Value} {e : TypeId} {sz n m : Nat} {v : Value} {a b : List α} {hs : List Hp} (H : Own e sz v (n + m) (a.map f ++ b.map f) hs) (hn : n = a.length := by rfl) (hm : m = b.length := by rfl) :
  Own e sz v (a ++ b).length ((a ++ b).map f) hs := by
 subst hn hm
 rw [List.length_append, List.map_append]; exact H
section ops
variable {P : Program} {ρ : Operand → Value} {E w : World} {ss : List (List Hp)} {K : Value → World → Prop} {dst : Option Tmp} {T : TypeId} {pos : String} {after : Array Edge} {g : Option (Nat × Bool)}
theorem zq {c x y : Operand} {u : Value} (hc : ρ c = .bool true) (hx : ρ x = u) (h : K u w) : OK P ⟨dst, .pick c x y, T, pos, after, g⟩ ρ w K :=
 o_pick hc rfl rfl (by rw [hx]; exact h)
theorem zm {c x y : Operand} {u : Value} (hc : ρ c = .bool false) (hy : ρ y = u) (h : K u w) : OK P ⟨dst, .pick c x y, T, pos, after, g⟩ ρ w K :=
 o_pick hc rfl rfl (by rw [hy]; exact h)
theorem o_bstr {s e t : TypeId} {x : Operand} {v : Value} {L : List Hp} {n : Nat} {l : List UInt8} (hs : P.underlying s = some (.slice e)) (he : P.underlying e = some (.int .u8)) (ht : P.underlying t = some .string)
  (hx : ρ x = v) (hr : Sl L 1 v n (l.map bV)) (H : Has E w ss) (hL : L ⊆ ss.flatten) (hK : K (S l) w) : OK P ⟨dst, .convert s t x, T, pos, after, g⟩ ρ w K := by
 refine OK.val (run_v ?_) hK
 obtain ⟨p, cap, rfl, _, _, hl, hp⟩ := hr
 rw [hx, run_convert_bytes_string w s t e p n cap hs he ht]
 have fold : ∀ (l : List UInt8) (b : ByteArray), (l.map fun c => ((c.toNat : Nat) : Int)).foldl (fun r n => r.push (UInt8.ofNat n.toNat)) b = ⟨b.data ++ l.toArray⟩ := by
  intro l
  induction l with
  | nil => intro b; simp
  | cons c l ih => intro b; simp only [List.map_cons, List.foldl_cons]; rw [ih]; apply ByteArray.ext; simp [ByteArray.push]
 have hn : l.length = n := by simpa using hl
 by_cases h0 : n = 0
 ·
  subst h0
  obtain rfl : l = [] := by simpa using hn
  cases p with
  | none => simp [Conv.bytesToString, S]; rfl
  | some a =>
   have := run_bytesToString (P := P) w a 0 cap [] (by simp [loadCells, loadCellsFrom])
   rw [this]; simp [S]; rfl
 ·
  obtain ⟨b, off, rfl, hc⟩ := hp (by omega)
  have := run_bytesToString (P := P) w ⟨b, off, none⟩ n cap (l.map fun c => ((c.toNat : Nat) : Int)) (by
   have h := run_loadCells_list (P := P) (w := w) ⟨b, off, none⟩ (l.map bV) (fun j v hv => by rw [add_lit]; exact H.cell hL hc hv)
   rw [List.length_map, hn] at h
   rw [h, List.map_map]; rfl)
  rw [this, fold]
  simp [S]
end ops
theorem zE {P : Program} {ops : List Oper} {Q : Exit → Act → World → Prop} {w : World} {rest : List Oper} {N : Nat} {r : Nat → Value} {d : Nat} {op : Op} {T : TypeId} {pos : String} {after : Array Edge} {g : Nat} {b : Bool} (t : Nat)
  (hgt : dstOf ops g = some t) (hv : ev N r (.tmp t) = undef) (h : wpList P ops.toArray Q rest (fr N (upd r d undef)) w) :
  wpList P ops.toArray Q (⟨some d, op, T, pos, after, some (g, b)⟩ :: rest) (fr N r) w := by
 obtain ⟨og, hg, ht⟩ := dstOf_spec ops g hgt
 have hy : yielded ops.toArray (fr N r).tmps g = none := by
  simp only [yielded, hg, ht, Option.bind_some, fr_at]
  by_cases h : t < N
  ·
   have hb : Nat.blt t N = true := by simpa using h
   simp only [ev, hb] at hv
   have hv' : r t = undef := hv
   rw [if_pos h, hv']; rfl
  · rw [if_neg h]
 have hw : Region.wanted ⟨some d, op, T, pos, after, some (g, b)⟩ (yielded ops.toArray (fr N r).tmps) = false := by
  simp only [Region.wanted, hy]; cases b <;> rfl
 unfold wpList
 rw [if_neg (by rw [hw]; simp), fr_put]
 exact h
theorem shr_lit (x : Int) {k : Int} {m : Nat} {d : Int} (hd : 0 ≤ d) (h : (2 : Int) ^ (min k.toNat m) = d) : x.fdiv (2 ^ (min k.toNat m)) = x / d := by
 rw [h]; exact Int.fdiv_eq_ediv_of_nonneg _ hd
theorem shl_lit {x : Int} {k : Int} {m : Nat} {d : Int} (h0 : -9223372036854775808 ≤ x * d) (h1 : x * d ≤ 9223372036854775807) (h : (2 : Int) ^ (min k.toNat m) = d) :
  IntKind.wrap .i64 (x * 2 ^ (min k.toNat m)) = x * d := by rw [h]; exact w64 h0 h1
theorem first_byte {s : List UInt8} {b : UInt8} (h : s[0]? = some b) (hb : b.toNat ≤ 127) : ∀ c, s[0]? = some c → c.toNat ≤ 127 := by
 intro c hc; rw [h] at hc; cases hc; exact hb
end Go.Q
namespace Go.Q
theorem sl_raw {b o sz n cap : Nat} {c : Array Value} {e : TypeId} {g : Nat × Nat} (hfit : o + n * sz ≤ c.size) (hn : n ≤ cap) (hm : cap ≤ 9223372036854775807) :
  Sl [Hp.one b (.cells c e g)] sz (.slice (some ⟨b, o, none⟩) n cap) n ((c.toList.drop o).take (n * sz)) := by
 refine ⟨_, _, rfl, hn, hm, ?_, fun _ => ⟨b, o, rfl, CellsAt.one ?_⟩⟩
 · rw [List.length_take, List.length_drop, Array.length_toList, Nat.min_eq_left (by omega)]
 · rw [List.length_take, List.length_drop, Array.length_toList, Nat.min_eq_left (by omega)]
theorem Has.setRow {E w : World} {ss : List (List Hp)} {b : Nat} {c c' : Array Value} {e : TypeId} (H : Has E w ([Hp.one b (.cells c e (0, 0))] :: ss)) : Has E (w.setRow b c') ([Hp.one b (.cells c' e (0, 0))] :: ss) := by
 have hwb : w.heap[b]? = some (.cells c e (0, 0)) := H.at (h := Hp.one b (.cells c e (0, 0))) (by simp) (Hp.one_at _ _)
 refine Has0.write (an := [Hp.one b (.cells c e (0, 0))]) (an' := [Hp.one b (.cells c' e (0, 0))]) (hs := ss.flatten) H rfl rfl rfl (by simp) ?_ ?_ ?_
 ·
  intro k hk
  have hk := hk _ (List.mem_singleton.2 rfl)
  refine .inl fun h hh => ?_
  rw [List.mem_singleton.1 hh]
  unfold Hp.one at hk ⊢
  split at hk
  · cases hk
  · rw [if_neg (by assumption)]
 ·
  intro h hh k o hk
  rw [List.mem_singleton.1 hh] at hk
  obtain ⟨rfl, rfl⟩ := Hp.one_some hk
  simp only [World.setRow, Array.getElem?_modify]
  simp [hwb]
 ·
  intro k _ hk
  have hk := hk _ (List.mem_singleton.2 rfl)
  have : k ≠ b := by rintro rfl; rw [Hp.one_at] at hk; cases hk
  simp only [World.setRow, Array.getElem?_modify]
  rw [if_neg (by omega)]
section ops
variable {P : Program} {ρ : Operand → Value} {E w : World} {ss : List (List Hp)} {K : Value → World → Prop} {dst : Option Tmp} {T : TypeId} {pos : String} {after : Array Edge} {g : Option (Nat × Bool)}
theorem rsl_ex (o sz : Nat) {i j m : Int} (h0 : 0 ≤ i) (h1 : i ≤ j) (h2 : j ≤ m) :
  ∃ o' n' c' : Nat, (o' = if m = i then o else o + i.toNat * sz) ∧ (n' : Int) = j - i ∧ (c' : Int) = m - i ∧ (0 < c' → o' = o + i.toNat * sz) :=
 ⟨_, (j - i).toNat, (m - i).toNat, rfl, by omega, by omega, fun h => if_neg (by omega)⟩
theorem o_rsl2 {x : Operand} {lo hi mx : Option Operand} {t e : TypeId} {z : Value} {sz by_ b o n cap o' n' c' : Nat} {i j m : Int} (ht : P.underlying t = some (.slice e)) (hti : TI P e z sz by_)
  (hx : ρ x = .slice (some ⟨b, o, none⟩) n cap)
  (hr : ∀ w, (Instr.sliceBounds true n cap (lo.map ρ) (hi.map ρ) (mx.map ρ)).run P w = .ok (i.toNat, j.toNat, m.toNat) w)
  (h0 : 0 ≤ i) (h1 : i ≤ j) (h2 : j ≤ m) (ho : o' = if m = i then o else o + i.toNat * sz) (hn : (n' : Int) = j - i) (hc : (c' : Int) = m - i)
  (hK : K (.slice (some ⟨b, o', none⟩) n' c') w) : OK P ⟨dst, .slice t x lo hi mx, T, pos, after, g⟩ ρ w K := by
 have e1 : P.elem t = e := by simp [Program.elem, ht]
 have hrun : (Instr.sliceAt t (ρ x) (lo.map ρ) (hi.map ρ) (mx.map ρ)).run P w = .ok (sliced (some ⟨b, o, none⟩) i.toNat j.toNat m.toNat sz) w := by
  rw [hx, run_sliceAt_slice _ _ _ _ _ _ (by rw [e1]; exact ht), run_slice_any _ _ _ _ _ (by rw [e1]; exact ht), hr, e1]
  simp only [Result.andThen_ok, hti.size]
 obtain rfl : n' = j.toNat - i.toNat := by omega
 obtain rfl : c' = m.toNat - i.toNat := by omega
 subst ho
 by_cases hmi : m = i
 ·
  have : sliced (some (⟨b, o, none⟩ : Addr)) i.toNat j.toNat m.toNat sz = .slice (some ⟨b, o, none⟩) (j.toNat - i.toNat) (m.toNat - i.toNat) := by
   unfold sliced; rw [if_pos (by rw [hmi])]
  rw [this] at hrun
  rw [if_pos hmi] at hK
  exact OK.val (run_v hrun) hK
 ·
  have : sliced (some (⟨b, o, none⟩ : Addr)) i.toNat j.toNat m.toNat sz = .slice (some ⟨b, o + i.toNat * sz, none⟩) (j.toNat - i.toNat) (m.toNat - i.toNat) := by
   unfold sliced; rw [if_neg (by omega)]; simp [add_lit]
  rw [this] at hrun
  rw [if_neg hmi] at hK
  exact OK.val (run_v hrun) hK
theorem bounds_l {n cap : Nat} {k : IntKind} {i : Int} (h0 : 0 ≤ i) (h1 : i ≤ n) (w : World) :
  (Instr.sliceBounds true n cap (some (.int k i)) none none).run P w = .ok (i.toNat, ((n : Int)).toNat, ((cap : Int)).toNat) w := by
 simp [Instr.sliceBounds, run_sliceBound, h0, h1]
theorem bounds_h {n cap : Nat} {k : IntKind} {j : Int} (h0 : 0 ≤ j) (h1 : j ≤ cap) (w : World) :
  (Instr.sliceBounds true n cap none (some (.int k j)) none).run P w = .ok ((0 : Int).toNat, j.toNat, ((cap : Int)).toNat) w := by
 simp [Instr.sliceBounds, run_sliceBound, h0, h1]
theorem o_copy {x y : Operand} {t u e : TypeId} {z v : Value} {sz by_ b o n cap m : Nat} {c : Array Value} {ds : List Value} {L : List Hp} (ht : P.underlying t = some (.slice e)) (hi : TI P e z sz by_)
  (hx : ρ x = .slice (some ⟨b, o, none⟩) n cap) (hy : ρ y = v) (hs : Sl L sz v m ds) (H : Has E w ([Hp.one b (.cells c e (0, 0))] :: ss)) (hL : L ⊆ ([Hp.one b (.cells c e (0, 0))] :: ss).flatten)
  (hfit : 0 < min m n → o + min m n * sz ≤ c.size) (h1 : ∀ u ∈ ds.take (min m n * sz), u.oneCell' = true)
  (hK : ∀ c' w', c'.size = c.size → c'.toList = (if 0 < min m n then c.toList.take o ++ ds.take (min m n * sz) ++ c.toList.drop (o + min m n * sz) else c.toList) → Has E w' ([Hp.one b (.cells c' e (0, 0))] :: ss) → K (.int .i64 ((min m n : Nat) : Int)) w') :
  OK P ⟨dst, .call ⟨.builtin .copy, #[x, y], #[t, u]⟩, T, pos, after, g⟩ ρ w K := by
 obtain ⟨p, cap', rfl, hmc, _, hl, hp⟩ := hs
 obtain ⟨i, hi, hiz, rfl, hiby⟩ := hi
 have hwb : w.heap[b]? = some (.cells c e (0, 0)) := H.at (h := Hp.one b (.cells c e (0, 0))) (by simp) (Hp.one_at _ _)
 by_cases hk : 0 < min m n
 ·
  obtain ⟨b', off, rfl, hc⟩ := hp (by omega)
  have hlen : (ds.take (min m n * i.size)).length = min m n * i.size := by
   rw [List.length_take, hl, Nat.min_eq_left (Nat.mul_le_mul_right _ (Nat.min_le_left _ _))]
  have hload := run_loadCells_list (P := P) (w := w) ⟨b', off, none⟩ (ds.take (min m n * i.size)) (fun j v hv => by
   rw [add_lit]
   refine H.cell hL hc ?_
   rw [List.getElem?_take] at hv
   split at hv
   · exact hv
   · cases hv)
  rw [hlen] at hload
  have hst := run_storeCells_at P b o e (ds.take (min m n * i.size)) 0 c w hwb (by rw [hlen]; exact hfit hk) h1
  simp only [Nat.add_zero, hlen] at hst
  refine zV (v := .int .i64 ((min m n : Nat) : Int)) (w' := w.setRow b (c.toList.take o ++ ds.take (min m n * i.size) ++ c.toList.drop (o + min m n * i.size)).toArray) ?_ (hK _ _ ?_ (by rw [if_pos hk]) H.setRow)
  ·
   have hmin : m.min n = min m n := rfl
   simp [hx, hy, builtin, Builtin.copy_, run_underlying ht, Builtin.lenOf, Builtin.firstCells, sizeOf, typeInfo, hi, hmin, hload, hst, goInt]
  ·
   have := hfit hk
   simp only [List.size_toArray, List.length_append, List.length_take, List.length_drop, Array.length_toList, hl]
   have h3 : min m n * i.size ≤ m * i.size := Nat.mul_le_mul_right _ (Nat.min_le_left _ _)
   omega
 ·
  have h0 : min m n = 0 := by omega
  refine zV (v := .int .i64 ((min m n : Nat) : Int)) (w' := w) ?_ (hK c _ rfl (by rw [if_neg hk]) H)
  have hmin : m.min n = 0 := h0
  cases p with
  | none => simp [hx, hy, builtin, Builtin.copy_, run_underlying ht, Builtin.lenOf, Builtin.firstCells, sizeOf, typeInfo, hi, hmin, h0, goInt, storeCells]
  | some a => simp [hx, hy, builtin, Builtin.copy_, run_underlying ht, Builtin.lenOf, Builtin.firstCells, sizeOf, typeInfo, hi, hmin, h0, goInt, storeCells, loadCells, loadCellsFrom]
end ops
end Go.Q
namespace Go.Q
theorem wu64 {x : Int} (h0 : 0 ≤ x) (h1 : x ≤ 18446744073709551615) : IntKind.wrap .u64 x = x := by
 simp only [IntKind.wrap, IntKind.bits, IntKind.signed]
 simp only [show (2:Int)^64 = 18446744073709551616 from rfl]
 simp
 omega
section ops
variable {P : Program} {ρ : Operand → Value} {E w : World} {ss : List (List Hp)} {K : Value → World → Prop} {dst : Option Tmp} {T : TypeId} {pos : String} {after : Array Edge} {g : Option (Nat × Bool)}
theorem o_sl_l {x y : Operand} {t e : TypeId} {zz : Value} {v : Value} {sz by_ n : Nat} {cs : List Value} {L : List Hp} {k : IntKind} {i : Int} (ht : P.underlying t = some (.slice e)) (hi : TI P e zz sz by_)
  (hx : ρ x = v) (hs : Sl L sz v n cs) (hy : ρ y = .int k i) (h0 : 0 ≤ i) (h1 : i ≤ n)
  (hK : ∀ v', Sl L sz v' (n - i.toNat) (cs.drop (i.toNat * sz)) → K v' w) : OK P ⟨dst, .slice t x (some y) none none, T, pos, after, g⟩ ρ w K := by
 have e1 : P.elem t = e := by simp [Program.elem, ht]
 obtain ⟨p, cap, rfl⟩ := hs.form
 have hs' := hs
 obtain ⟨p', cap', e2, hnc, hcm, hl, hp⟩ := hs
 cases e2
 have hrun : (Instr.sliceAt t (ρ x) ((some y).map ρ) ((none : Option Operand).map ρ) ((none : Option Operand).map ρ)).run P w = .ok (sliced p i.toNat n cap sz) w := by
  simp only [hx, hy, Option.map_some, Option.map_none]
  rw [run_sliceAt_slice _ _ _ _ _ _ (by rw [e1]; exact ht), run_slice_any _ _ _ _ _ (by rw [e1]; exact ht), bounds_l h0 h1, e1]
  simp only [Result.andThen_ok, hi.size, Int.toNat_natCast]
 refine OK.val (run_v hrun) (hK _ ?_)
 unfold sliced
 refine ⟨_, _, rfl, by omega, by omega, ?_, fun h => ?_⟩
 · rw [List.length_drop, hl, Nat.sub_mul]
 ·
  obtain ⟨b, off, rfl, hc⟩ := hp (by omega)
  rw [if_neg (by omega)]
  refine ⟨b, off + i.toNat * sz, ?_, hc.drop⟩
  simp [add_lit]
end ops
theorem sl_partm {α : Type} {f : α → Value} {l : List α} {L : List Hp} {v : Value} {i j : Nat} (h : Sl L 1 v (j - i) (((l.map f).take (j * 1)).drop (i * 1))) (_hi : i ≤ j) (hj : j ≤ l.length) : Sl L 1 v ((l.take j).drop i).length (((l.take j).drop i).map f) := by
 rw [List.length_drop, List.length_take, Nat.min_eq_left hj, List.map_drop, List.map_take]; simpa using h
end Go.Q
namespace Go.Q
theorem drop_of {α : Type} {l : List α} {k : Nat} {x : α} (h : l[k]? = some x) : l.drop k = x :: l.drop (k + 1) := by
 obtain ⟨hlt, rfl⟩ := List.getElem?_eq_some_iff.1 h
 exact List.drop_eq_getElem_cons hlt
def sumS (s : Int) : List Int → Int
 | [] => s
 | n :: l => if 9223372036854775807 - s < n then 9223372036854775807 else sumS (s + max n 0) l
def fitsS (n : Int) (m : Nat) : Bool := decide (0 ≤ n) && (decide ((m : Int) = 8) || decide (Int.fdiv n (2 ^ (min (8 * (m : Int)).toNat 64)) = 0))
def beFrom (n : Int) : Nat → List UInt8
 | 0 => []
 | j + 1 => by8 (n / 2 ^ (8 * j)) :: beFrom n j
theorem beFrom_pred {n : Int} {j : Nat} (h : 0 < j) : beFrom n j = by8 (n / 2 ^ (8 * (j - 1))) :: beFrom n (j - 1) := by
 obtain ⟨j, rfl⟩ : ∃ i, j = i + 1 := ⟨j - 1, by omega⟩
 rfl
theorem by8_shift (n : Int) {j : Nat} (h : 1 ≤ j) (h8 : j ≤ 8) : by8 (Int.fdiv n (2 ^ (min (8 * ((j : Int) - 1)).toNat 64))) = by8 (n / 2 ^ (8 * (j - 1))) := by
 have e : min (8 * ((j : Int) - 1)).toNat 64 = 8 * (j - 1) := by omega
 rw [e, Int.fdiv_eq_ediv_of_nonneg _ (by exact Int.le_of_lt (Int.pow_pos (by omega)))]
theorem zA (n : Int) (j : Nat) : (beFrom n j).length = j := by induction j <;> simp [beFrom, *]
def putS (m : Nat) (l : List Int) : List UInt8 := if 1 ≤ m ∧ m ≤ 8 ∧ ∀ x ∈ l, fitsS x m = true then l.flatMap (beFrom · m) else []
theorem putS_no {m : Nat} {l : List Int} {x : Int} (h : x ∈ l) (hf : fitsS x m = false) : putS m l = [] := by
 rw [putS, if_neg]
 rintro ⟨_, _, h3⟩
 rw [h3 x h] at hf; cases hf
theorem putS_yes {m : Nat} {l : List Int} (h1 : 1 ≤ m) (h8 : m ≤ 8) (h : ∀ x ∈ l, fitsS x m = true) : putS m l = l.flatMap (beFrom · m) := by
 rw [putS, if_pos ⟨h1, h8, h⟩]
def beVal (l : List UInt8) : Int := l.foldl (fun n b => n * 256 + b.toNat) 0
theorem beVal_snoc (l : List UInt8) (b : UInt8) : beVal (l ++ [b]) = beVal l * 256 + b.toNat := by simp [beVal]
theorem beVal_nonneg (l : List UInt8) : 0 ≤ beVal l := by
 have : ∀ (l : List UInt8) (n : Int), 0 ≤ n → 0 ≤ l.foldl (fun n b => n * 256 + (b.toNat : Int)) n := by
  intro l
  induction l with
  | nil => intro n h; exact h
  | cons b l ih => intro n h; exact ih _ (show 0 ≤ n * 256 + (b.toNat : Int) by omega)
 exact this l 0 (by omega)
theorem foldl_bound : ∀ (l : List UInt8) (n : Int), 0 ≤ n → l.foldl (fun n b => n * 256 + (b.toNat : Int)) n < (n + 1) * 256 ^ l.length := by
 intro l
 induction l with
 | nil => intro n _; simp; omega
 | cons b l ih =>
  intro n h
  have hb := b.toNat_lt
  refine Int.lt_of_lt_of_le (ih (n * 256 + b.toNat) (by omega)) ?_
  have h1 : (n * 256 + (b.toNat : Int) + 1) ≤ (n + 1) * 256 := by omega
  have h2 : (0 : Int) ≤ 256 ^ l.length := Int.le_of_lt (Int.pow_pos (by omega))
  have h3 := Int.mul_le_mul_of_nonneg_right h1 h2
  rw [List.length_cons, Int.pow_succ, ← Int.mul_assoc, Int.mul_right_comm]
  exact h3
theorem beVal_lt_pow (l : List UInt8) : beVal l < 256 ^ l.length := by
 have := foldl_bound l 0 (by omega); simpa [beVal] using this
theorem pow_mono {a b : Nat} (h : a ≤ b) : (256 : Int) ^ a ≤ 256 ^ b := by
 have h2 := Int.ofNat_le.2 (Nat.pow_le_pow_right (n := 256) (by omega) h)
 rw [Int.natCast_pow, Int.natCast_pow] at h2
 exact h2
theorem beVal_lt {s : List UInt8} {i m : Nat} (h : i < m) (h8 : m ≤ 8) (hs : m ≤ s.length) (hc : m ≤ 7 ∨ ∀ c, s[0]? = some c → c.toNat ≤ 127) : beVal (s.take i) < 36028797018963968 := by
 have hl : (s.take i).length = i := by rw [List.length_take]; omega
 rcases hc with hc | hc
 ·
  have h1 := beVal_lt_pow (s.take i)
  rw [hl] at h1
  have h2 := pow_mono (show i ≤ 6 by omega)
  have : (256 : Int) ^ 6 = 281474976710656 := by decide
  omega
 ·
  cases i with
  | zero => simp [beVal]
  | succ i =>
   cases s with
   | nil => simp at hs; omega
   | cons c s =>
    have hcc := hc c rfl
    rw [List.take_succ_cons]
    have h1 := foldl_bound (s.take i) c.toNat (by omega)
    have hl' : (s.take i).length = i := by simpa using hl
    rw [hl'] at h1
    have h2 := pow_mono (show i ≤ 6 by omega)
    have h3 : (256 : Int) ^ 6 = 281474976710656 := by decide
    have h4 : ((c.toNat : Int) + 1) * 256 ^ i ≤ 128 * 256 ^ i := Int.mul_le_mul_of_nonneg_right (by omega) (Int.le_of_lt (Int.pow_pos (by omega)))
    have h5 : beVal (c :: s.take i) = (s.take i).foldl (fun n b => n * 256 + (b.toNat : Int)) c.toNat := by simp [beVal]
    rw [h5]
    omega
theorem or8 {x : Int} (h0 : 0 ≤ x) (h1 : x < 36028797018963968) (b : UInt8) : IntKind.wrap .i64 ((BitVec.ofInt 64 (x * 256) ||| BitVec.ofInt 64 (b.toNat : Int)).toNat : Int) = x * 256 + b.toNat := by
 obtain ⟨n, rfl⟩ := Int.eq_ofNat_of_zero_le h0
 have hb := b.toNat_lt
 have e1 : (BitVec.ofInt 64 ((n : Int) * 256)).toNat = n * 256 := by
  rw [show ((n : Int) * 256) = ((n * 256 : Nat) : Int) by omega, BitVec.ofInt_natCast, BitVec.toNat_ofNat]
  exact Nat.mod_eq_of_lt (by omega)
 have e2 : (BitVec.ofInt 64 (b.toNat : Int)).toNat = b.toNat := by
  rw [BitVec.ofInt_natCast, BitVec.toNat_ofNat]
  exact Nat.mod_eq_of_lt (by omega)
 have e3 : n * 256 ||| b.toNat = n * 256 + b.toNat := by
  have := Nat.shiftLeft_add_eq_or_of_lt (i := 8) (b := b.toNat) (by omega) n
  rw [Nat.shiftLeft_eq, show 2 ^ 8 = 256 from rfl] at this
  omega
 rw [BitVec.toNat_or, e1, e2, e3]
 rw [w64 (by omega) (by omega)]
 omega
def takeS (s : List UInt8) (m : Nat) : Int × List UInt8 × Bool :=
 if 1 ≤ m ∧ m ≤ 8 ∧ m ≤ s.length ∧ (m ≤ 7 ∨ ∀ c, s[0]? = some c → c.toNat ≤ 127) then (beVal (s.take m), s.drop m, true) else (0, s, false)
theorem takeS_yes {s : List UInt8} {m : Nat} (h1 : 1 ≤ m) (h2 : m ≤ 8) (h3 : m ≤ s.length) (h4 : m ≤ 7 ∨ ∀ c, s[0]? = some c → c.toNat ≤ 127) : takeS s m = (beVal (s.take m), s.drop m, true) := by
 rw [takeS, if_pos ⟨h1, h2, h3, h4⟩]
theorem takeS_no {s : List UInt8} {m : Nat} (h : (m < 1 ∨ 8 < m) ∨ s.length < m ∨ (m = 8 ∧ ∃ c, s[0]? = some c ∧ 127 < c.toNat)) : takeS s m = (0, s, false) := by
 rw [takeS, if_neg]
 rintro ⟨h1, h2, h3, h4⟩
 rcases h with h | h | ⟨h, c, hc, hh⟩
 · omega
 · omega
 ·
  rcases h4 with h4 | h4
  · omega
  · have := h4 c hc; omega
end Go.Q
namespace Go.Q
theorem Has.all3 {E w : World} {s t u : List Hp} {ss : List (List Hp)} (H : Has E w (s :: t :: u :: ss)) : Has E w [s, t, u, ss.flatten] := by unfold Has at *; simpa using H
theorem Has.of_all3 {E w : World} {s t u : List Hp} {ss : List (List Hp)} (H : Has E w [s, t, u, ss.flatten]) : Has E w (s :: t :: u :: ss) := by unfold Has at *; simpa using H
theorem Has.all4 {E w : World} {s t u x : List Hp} {ss : List (List Hp)} (H : Has E w (s :: t :: u :: x :: ss)) : Has E w [s, t, u, x, ss.flatten] := by unfold Has at *; simpa using H
theorem Has.of_all4 {E w : World} {s t u x : List Hp} {ss : List (List Hp)} (H : Has E w [s, t, u, x, ss.flatten]) : Has E w (s :: t :: u :: x :: ss) := by unfold Has at *; simpa using H
theorem Sl.one {L : List Hp} {sz n : Nat} {v : Value} {cs : List Value} (h : Sl L sz v n cs) : v.oneCell' = true := by obtain ⟨p, c, rfl⟩ := h.form; rfl
theorem Own.one {e : TypeId} {sz n : Nat} {v : Value} {cs : List Value} {hs : List Hp} (h : Own e sz v n cs hs) : v.oneCell' = true := h.sl.one
theorem sorted_eq {a b : List Int} (ha : a.Pairwise (· < ·)) (hb : b.Pairwise (· < ·)) (h : ∀ x, x ∈ a ↔ x ∈ b) : a = b := by
 induction a generalizing b with
 | nil => cases b with
  | nil => rfl
  | cons y t => exact absurd ((h y).2 (List.mem_cons_self ..)) (by simp)
 | cons x s ih => cases b with
  | nil => exact absurd ((h x).1 (List.mem_cons_self ..)) (by simp)
  | cons y t =>
   have ha' := List.pairwise_cons.1 ha
   have hb' := List.pairwise_cons.1 hb
   have e : x = y := by
    rcases List.mem_cons.1 ((h x).1 (List.mem_cons_self ..)) with e | e
    · exact e
    ·
     rcases List.mem_cons.1 ((h y).2 (List.mem_cons_self ..)) with e' | e'
     · exact e'.symm
     · have := hb'.1 x e; have := ha'.1 y e'; omega
   subst e
   congr 1
   refine ih ha'.2 hb'.2 fun z => ?_
   constructor
   ·
    intro hz
    rcases List.mem_cons.1 ((h z).1 (List.mem_cons_of_mem _ hz)) with e | e
    · have := ha'.1 z hz; omega
    · exact e
   ·
    intro hz
    rcases List.mem_cons.1 ((h z).2 (List.mem_cons_of_mem _ hz)) with e | e
    · have := hb'.1 z hz; omega
    · exact e
end Go.Q
namespace Go.Q
end Go.Q
namespace Go.Q
end Go.Q
namespace Go.Q
theorem o_not2 {P : Program} {ρ : Operand → Value} {w : World} {K : Value → World → Prop} {dst : Option Tmp} {T : TypeId} {pos : String} {after : Array Edge} {g : Option (Nat × Bool)} {t : TypeId} {x : Operand} {b b' : Bool} (hx : ρ x = .bool b) (hb : (!b) = b') (h : K (.bool b') w) :
  OK P ⟨dst, .unOp .not t x, T, pos, after, g⟩ ρ w K := by subst hb; exact o_not hx h
end Go.Q
namespace Go.Q
def OwnAt (e : TypeId) (v : Value) (n : Nat) (cs : List Value) (hs : List Hp) (b : Nat) : Prop :=
 ∃ cap cur, v = .slice (some ⟨b, 0, none⟩) n cap ∧ hs = [Hp.one b (.cells cur e (0, 0))] ∧ n ≤ cap ∧ cap ≤ maxLen ∧ cur.size = cap * 1 ∧ cur.toList.take (n * 1) = cs ∧ cs.length = n * 1
section ops
variable {P : Program} {ρ : Operand → Value} {E w : World} {ss : List (List Hp)} {K : Value → World → Prop} {dst : Option Tmp} {T : TypeId} {pos : String} {after : Array Edge} {g : Option (Nat × Bool)}
theorem o_ownAddr {x y : Operand} {t e : TypeId} {hs : List Hp} {n by_ : Nat} {v z : Value} {cs : List Value} {k : IntKind} {i : Int} (ht : P.underlying t = some (.slice e)) (hi : TI P e z 1 by_)
  (hx : ρ x = v) (ho : Own e 1 v n cs hs) (hy : ρ y = .int k i) (h0 : 0 ≤ i) (h1 : i < n) (hK : ∀ b, OwnAt e v n cs hs b → K (.pointer (some ⟨b, i.toNat, none⟩)) w) :
  OK P ⟨dst, .indexAddr t x y, T, pos, after, g⟩ ρ w K := by
 obtain ⟨hl, ⟨rfl, h2, rfl⟩ | ⟨b, cap, cur, rfl, rfl, hnc, hcm, hsz, hc⟩⟩ := ho
 · omega
 ·
  refine OK.val (run_v (v := .pointer (some ⟨b, i.toNat, none⟩)) ?_) (hK b ⟨cap, cur, rfl, rfl, hnc, hcm, hsz, hc, hl⟩)
  rw [hx, hy]
  simp [Instr.indexAt, asIntOf, run_underlying ht, h0, h1, hi.size, add_lit]
theorem o_ownStore {α : Type} {f : α → Value} {l : List α} {a : α} {x y : Operand} {t e : TypeId} {hs : List Hp} {n i b by_ : Nat} {v z : Value} (hi : TI P t z 1 by_) (hx : ρ x = .pointer (some ⟨b, i, none⟩)) (hy : ρ y = f a)
  (hv : (f a).oneCell' = true) (ho : OwnAt e v n (l.map f) hs b) (hlt : i < n) (H : Has E w (hs :: ss)) (hK : ∀ hs' w', Own e 1 v (l.set i a).length ((l.set i a).map f) hs' → Has E w' (hs' :: ss) → K undef w') :
  OK P ⟨dst, .store t x y, T, pos, after, g⟩ ρ w K := by
 obtain ⟨cap, cur, rfl, rfl, hnc, hcm, hsz, hc, hl⟩ := ho
 have hln : (l.set i a).length = n := by simpa using hl
 refine zH (c' := cur.setIfInBounds i (f a)) hi hx hy hv (by omega) rfl H fun w' H' => hK _ w' ?_ H'
 rw [hln]
 refine ⟨by simpa using hl, .inr ⟨b, cap, _, rfl, rfl, hnc, hcm, by simpa using hsz, ?_⟩⟩
 rw [Array.toList_setIfInBounds, List.take_set, hc, List.map_set]
end ops
end Go.Q
namespace Go.Q
abbrev Bs := List UInt8
theorem flat_len {α : Type} {f : α → List Value} {sz : Nat} (hf : ∀ a, (f a).length = sz) : ∀ l : List α, (l.flatMap f).length = l.length * sz
 | [] => by simp
 | a :: l => by rw [List.flatMap_cons, List.length_append, hf, flat_len hf l, List.length_cons, Nat.succ_mul, Nat.add_comm]
theorem flat_part {α : Type} {f : α → List Value} {sz : Nat} (hf : ∀ a, (f a).length = sz) : ∀ (l : List α) (i : Nat) (x : α), l[i]? = some x → ((l.flatMap f).drop (i * sz)).take sz = f x
 | [], i, x, h => by simp at h
 | a :: l, 0, x, h => by
  have e : a = x := by simpa using h
  subst e
  rw [List.flatMap_cons, Nat.zero_mul, List.drop_zero, List.take_append_of_le_length (by rw [hf]; exact Nat.le_refl _), List.take_of_length_le (by rw [hf]; exact Nat.le_refl _)]
 | a :: l, i + 1, x, h => by
  rw [List.flatMap_cons, Nat.succ_mul, List.drop_append, List.drop_of_length_le (by rw [hf]; omega), List.nil_append, hf, Nat.add_sub_cancel]
  exact flat_part hf l i x (by simpa using h)
theorem Own.appF {α : Type} {f : α → List Value} {e : TypeId} {sz n m : Nat} {v : Value} {a b : List α} {hs : List Hp} (H : Own e sz v (n + m) (a.flatMap f ++ b.flatMap f) hs) (hn : n = a.length := by rfl) (hm : m = b.length := by rfl) :
  Own e sz v (a ++ b).length ((a ++ b).flatMap f) hs := by
 subst hn hm
 rw [List.length_append, List.flatMap_append]; exact H
theorem sl_litF {α : Type} {f : α → List Value} {sz : Nat} {l : List α} {b : Nat} {c : Array Value} {T : TypeId} {g : Nat × Nat} {n : Nat} (hf : ∀ a, (f a).length = sz) (hc : c.toList = l.flatMap f) (hn : l.length = n) (hm : n ≤ 9223372036854775807) :
  Sl [Hp.one b (.cells c T g)] sz (.slice (some ⟨b, 0, none⟩) n n) l.length (l.flatMap f) := by
 subst hn
 exact ⟨_, _, rfl, Nat.le_refl _, hm, flat_len hf l, fun _ => ⟨b, 0, rfl, CellsAt.one (by rw [hc, List.drop_zero, List.take_length])⟩⟩
theorem one_flat {α : Type} {f : α → List Value} (h1 : ∀ a, ∀ u ∈ f a, u.oneCell' = true) (l : List α) : ∀ u ∈ l.flatMap f, u.oneCell' = true := fun u hu => by
 obtain ⟨a, _, h⟩ := List.mem_flatMap.1 hu
 exact h1 a u h
theorem CellsAt.field {L : List Hp} {b off k : Nat} {cs ds : List Value} (H : CellsAt L b off cs) (h : (cs.drop k).take ds.length = ds) : CellsAt L b (off + k) ds :=
 H.sub fun j v hv => by
  rw [← h, List.getElem?_take] at hv
  split at hv
  · rw [List.getElem?_drop] at hv; exact hv
  · cases hv
section ops
variable {P : Program} {ρ : Operand → Value} {E w : World} {ss : List (List Hp)} {K : Value → World → Prop} {dst : Option Tmp} {T : TypeId} {pos : String} {after : Array Edge} {g : Option (Nat × Bool)}
theorem o_indexF {α : Type} {f : α → List Value} {l : List α} {a : α} {x y : Operand} {t e : TypeId} {L : List Hp} {sz n by_ : Nat} {v z : Value} {k : IntKind} {i : Int} (hf : ∀ a, (f a).length = sz) (ht : P.underlying t = some (.slice e)) (hi : TI P e z sz by_)
  (hx : ρ x = v) (hs : Sl L sz v n (l.flatMap f)) (hn : n = l.length) (hy : ρ y = .int k i) (h0 : 0 ≤ i) (ha : l[i.toNat]? = some a) (hK : ∀ b off, CellsAt L b off (f a) → K (.pointer (some ⟨b, off, none⟩)) w) :
  OK P ⟨dst, .indexAddr t x y, T, pos, after, g⟩ ρ w K := by
 have hlt := (List.getElem?_eq_some_iff.1 ha).1
 refine o_indexAddr ht hi hx hs hy h0 (by omega) fun b off hc => hK b off ?_
 rw [flat_part hf l i.toNat a ha] at hc
 exact hc
end ops
def pickL : List Nat → List (List Hp) → List (List Hp)
 | [], _ => []
 | c :: cs, ss => match ss[c]? with | some s => s :: pickL cs (ss.eraseIdx c) | none => []
theorem pickL_sub : ∀ (cs : List Nat) (ss : List (List Hp)), ∃ rest, ss.Perm (pickL cs ss ++ rest)
 | [], ss => ⟨ss, List.Perm.refl _⟩
 | c :: cs, ss => by
  unfold pickL
  split
  ·
   rename_i s hs
   obtain ⟨rest, h⟩ := pickL_sub cs (ss.eraseIdx c)
   have hf := perm_front c ss
   unfold Q.front at hf
   rw [hs] at hf
   exact ⟨rest, hf.symm.trans (by rw [List.cons_append]; exact h.cons s)⟩
  · exact ⟨ss, List.Perm.refl _⟩
theorem Has.pick {E w : World} {ss ts : List (List Hp)} (H : Has E w ss) (cs : List Nat) (h : pickL cs ss = ts) : Has E w ts := by
 subst h
 obtain ⟨rest, h⟩ := pickL_sub cs ss
 exact (H.perm h.symm).sub (List.sublist_append_left _ _)
theorem Has.set1 {E w : World} {ss : List (List Hp)} {b off : Nat} {c : Array Value} {U : TypeId} {v : Value} (hlt : off < c.size) (H : Has E w ([Hp.one b (.cells c U (0, 0))] :: ss)) :
  Has E (w.setCell ⟨b, off, none⟩ v) ([Hp.one b (.cells (c.setIfInBounds off v) U (0, 0))] :: ss) := by
 have hwb : w.heap[b]? = some (.cells c U (0, 0)) := H.at (h := Hp.one b (.cells c U (0, 0))) (by simp) (Hp.one_at _ _)
 refine Has0.write (an := [Hp.one b (.cells c U (0, 0))]) (an' := [Hp.one b (.cells (c.setIfInBounds off v) U (0, 0))]) (hs := ss.flatten) H rfl rfl rfl (by simp) ?_ ?_ ?_
 ·
  intro k hk
  have hk := hk _ (List.mem_singleton.2 rfl)
  refine .inl fun h hh => ?_
  rw [List.mem_singleton.1 hh]
  unfold Hp.one at hk ⊢
  split at hk
  · cases hk
  · rw [if_neg (by assumption)]
 ·
  intro h hh k o hk
  rw [List.mem_singleton.1 hh] at hk
  obtain ⟨rfl, rfl⟩ := Hp.one_some hk
  simp only [World.setCell, Array.getElem?_modify]
  simp [hwb]
 ·
  intro k _ hk
  have hk := hk _ (List.mem_singleton.2 rfl)
  have : k ≠ b := by rintro rfl; rw [Hp.one_at] at hk; cases hk
  simp only [World.setCell, Array.getElem?_modify]
  rw [if_neg (by omega)]
def setFrom (c : Array Value) (k : Nat) : List Value → Array Value
 | [] => c
 | v :: vs => setFrom (c.setIfInBounds k v) (k + 1) vs
theorem run_stores {P : Program} {E : World} {ss : List (List Hp)} {b off : Nat} {U : TypeId} : ∀ (vs : List Value) (i : Nat) (c : Array Value) (w : World), Has E w ([Hp.one b (.cells c U (0, 0))] :: ss) → off + i + vs.length ≤ c.size → (∀ v ∈ vs, v.oneCell' = true) →
  ∃ w', (storeCells ⟨b, off, none⟩ vs i).run P w = .ok () w' ∧ Has E w' ([Hp.one b (.cells (setFrom c (off + i) vs) U (0, 0))] :: ss)
 | [], i, c, w, H, _, _ => ⟨w, rfl, H⟩
 | v :: vs, i, c, w, H, hl, h1 => by
  have hlt : off + i < c.size := by simp only [List.length_cons] at hl; omega
  have hwb : w.heap[b]? = some (.cells c U (0, 0)) := H.at (h := Hp.one b (.cells c U (0, 0))) (by simp) (Hp.one_at _ _)
  have hcell : w.cell? ⟨b, off + i, none⟩ = some c[off + i] := by rw [cell_of_row w b (off + i) c U (0, 0) hwb]; simp [hlt]
  have hfz : w.frozen? ⟨b, off + i, none⟩ = false := by simp [World.frozen?, hwb]
  obtain ⟨w', hr, H'⟩ := run_stores (b := b) (off := off) (U := U) vs (i + 1) (c.setIfInBounds (off + i) v) (w.setCell ⟨b, off + i, none⟩ v) (H.set1 hlt) (by simp only [Array.size_setIfInBounds, List.length_cons] at hl ⊢; omega) (fun u hu => h1 u (List.mem_cons_of_mem _ hu))
  refine ⟨w', ?_, H'⟩
  have h1v := h1 v (List.mem_cons_self ..)
  simp only [storeCells, Sem.run_bind, add_lit, run_store P w ⟨b, off + i, none⟩ v .plain h1v, hcell, hfz]
  simpa using hr
section ops
variable {P : Program} {ρ : Operand → Value} {E w : World} {ss : List (List Hp)} {K : Value → World → Prop} {dst : Option Tmp} {T : TypeId} {pos : String} {after : Array Edge} {g : Option (Nat × Bool)}
theorem zv {x y : Operand} {t : TypeId} {b off sz : Nat} {c c' : Array Value} {U : TypeId} {v z : Value} {vs : List Value} {by_ : Nat} (hi : TI P t z sz by_) (hx : ρ x = .pointer (some ⟨b, off, none⟩)) (hy : ρ y = v)
  (hv : v.cells = vs.toArray) (hn : vs.length = sz) (h1 : ∀ u ∈ vs, u.oneCell' = true) (hlt : off + sz ≤ c.size) (hc : setFrom c off vs = c') (H : Has E w ([Hp.one b (.cells c U (0, 0))] :: ss))
  (hK : ∀ w', Has E w' ([Hp.one b (.cells c' U (0, 0))] :: ss) → K undef w') : OK P ⟨dst, .store t x y, T, pos, after, g⟩ ρ w K := by
 obtain ⟨w', hr, H'⟩ := run_stores (P := P) (b := b) (off := off) (U := U) vs 0 c w H (by omega) h1
 refine OK.skip (w' := w') (run_u ?_) (hK _ (by rw [← hc]; exact H'))
 rw [hx, hy]
 simp only [Instr.storeAt, Instr.sureAddr, Sem.run_bind, Sem.run_pure, Result.andThen_ok, storeVar, hi.size, hv]
 simpa [hn] using hr
end ops
theorem wrap_u64 (x : Int) : 0 ≤ IntKind.wrap .u64 x ∧ IntKind.wrap .u64 x < 18446744073709551616 := by
 simp only [IntKind.wrap, IntKind.bits, IntKind.signed]
 simp
 constructor
 · exact Int.emod_nonneg _ (by decide)
 · exact Int.emod_lt_of_pos _ (by decide)
end Go.Q
namespace Go.Q
def OwnAtF (e : TypeId) (sz : Nat) (v : Value) (n : Nat) (cs : List Value) (hs : List Hp) (b : Nat) : Prop :=
 ∃ cap cur, v = .slice (some ⟨b, 0, none⟩) n cap ∧ hs = [Hp.one b (.cells cur e (0, 0))] ∧ n ≤ cap ∧ cap ≤ maxLen ∧ cur.size = cap * sz ∧ cur.toList.take (n * sz) = cs ∧ cs.length = n * sz
theorem OwnAtF.cells {e : TypeId} {sz n b : Nat} {v : Value} {hs : List Hp} {α : Type} {f : α → List Value} (hf : ∀ a, (f a).length = sz) {l : List α} (ho : OwnAtF e sz v n (l.flatMap f) hs b) {i : Nat} {a : α} (ha : l[i]? = some a) : CellsAt hs b (i * sz) (f a) := by
 obtain ⟨cap, cur, rfl, rfl, hnc, hcm, hsz, hc, hl⟩ := ho
 refine ⟨_, List.mem_singleton.2 rfl, cur, e, (0, 0), Hp.one_at _ _, fun j v hv => ?_⟩
 have h1 := flat_part hf l i a ha
 rw [← h1, List.getElem?_take] at hv
 split at hv
 ·
  rw [List.getElem?_drop, ← hc, List.getElem?_take] at hv
  split at hv
  · simpa using hv
  · cases hv
 · cases hv
section ops
variable {P : Program} {ρ : Operand → Value} {E w : World} {ss : List (List Hp)} {K : Value → World → Prop} {dst : Option Tmp} {T : TypeId} {pos : String} {after : Array Edge} {g : Option (Nat × Bool)}
end ops
end Go.Q
namespace Go.Q
theorem flat_drop {α : Type} {f : α → List Value} {sz : Nat} (hf : ∀ a, (f a).length = sz) : ∀ (l : List α) (i : Nat), (l.flatMap f).drop (i * sz) = (l.drop i).flatMap f
 | [], i => by simp
 | x :: l, 0 => by simp
 | x :: l, i + 1 => by
  rw [List.flatMap_cons, Nat.succ_mul, Nat.add_comm, ← hf x, List.drop_length_add_append, List.drop_succ_cons, hf x, flat_drop hf l i]
end Go.Q
namespace Go.Q
theorem sl_dropF {α : Type} {f : α → List Value} {sz : Nat} (hf : ∀ a, (f a).length = sz) {l : List α} {L : List Hp} {v : Value} {k : Nat} (h : Sl L sz v (l.length - k) ((l.flatMap f).drop (k * sz))) : Sl L sz v (l.drop k).length ((l.drop k).flatMap f) := by
 rw [List.length_drop, ← flat_drop hf]; exact h
end Go.Q
namespace Go.Q
section
variable {α : Type} {c : α → Bool} {l lw : List α} {i j : Nat} {x : α}
end
end Go.Q
namespace Go.Q
theorem cells_one {v : Value} (h : v.oneCell' = true) : v.cells = #[v] := by cases v <;> first | rfl | (simp [Value.oneCell'] at h)
end Go.Q
namespace Go.Q
end Go.Q
namespace Go.Q
end Go.Q
namespace Go.Q
theorem fill_one1 {x z : Value} (hx : x.oneCell' = true) (hz : z.oneCell' = true) : Instr.fill (fun i => some (i * 1, 1)) ((Array.range (1 * 1)).map (z.cells[· % z.cells.size]!)) #[(0, x)].toList = some #[x] := by
 simp [Instr.fill, cells_one hx, cells_one hz, Array.range_succ, show Array.range 0 = #[] from rfl]
end Go.Q
namespace Go.Q
def keyR (k : Bs) : Bool := decide (k ≠ []) && decide ((k.length : Int) ≤ 8)
def valR (v : Bool × Bs) : Bool := decide ((v.2.length : Int) ≤ 16) && (v.1 || decide (v.2 = []))
end Go.Q
namespace Go.Q
end Go.Q
namespace Go.Q
def withS (n : Int) : Bool → List Int → List Int
 | d, [] => if d then [] else [n]
 | d, x :: l => (if d = false ∧ n ≤ x then [n] else []) ++ (if x ≠ n then [x] else []) ++ withS n (d || decide (n ≤ x)) l
theorem withS_true (n : Int) : ∀ l : List Int, withS n true l = l.filter (fun x => decide (x ≠ n))
 | [] => rfl
 | x :: l => by
  rw [withS, Bool.true_or, withS_true n l, if_neg (by simp), List.nil_append]
  by_cases h : x = n
  · simp [h]
  · simp [h]
theorem withS_mem (n a : Int) : ∀ l : List Int, a ∈ withS n false l ↔ a = n ∨ a ∈ l
 | [] => by simp [withS]
 | x :: l => by
  rw [withS, Bool.false_or]
  by_cases h : n ≤ x
  ·
   rw [decide_eq_true h, withS_true, if_pos ⟨rfl, h⟩]
   by_cases e : x = n
   · subst e; simp; grind
   · simp [e]; grind
  ·
   rw [decide_eq_false h, if_neg (fun g => h g.2), if_pos (by omega)]
   simp [withS_mem n a l]; grind
theorem withS_sorted (n : Int) : ∀ l : List Int, l.Pairwise (· < ·) → (withS n false l).Pairwise (· < ·)
 | [], _ => by simp [withS]
 | x :: l, h => by
  have h2 := List.pairwise_cons.1 h
  rw [withS, Bool.false_or]
  by_cases g : n ≤ x
  ·
   rw [decide_eq_true g, withS_true, if_pos ⟨rfl, g⟩]
   have hf := h2.2.filter (fun y => decide (y ≠ n))
   by_cases e : x = n
   ·
    subst e; simp only [ne_eq, not_true, if_false, List.append_nil, List.singleton_append]
    exact List.pairwise_cons.2 ⟨fun a ha => h2.1 a ((List.mem_filter.1 ha).1), hf⟩
   ·
    rw [if_pos e]
    refine List.pairwise_cons.2 ⟨fun a ha => ?_, List.pairwise_cons.2 ⟨fun a ha => h2.1 a ((List.mem_filter.1 ha).1), hf⟩⟩
    rcases List.mem_cons.1 ha with rfl | ha
    · omega
    · have := h2.1 a ((List.mem_filter.1 ha).1); omega
  ·
   rw [decide_eq_false g, if_neg (fun k => g k.2), if_pos (by omega)]
   refine List.pairwise_cons.2 ⟨fun a ha => ?_, withS_sorted n l h2.2⟩
   rcases (withS_mem n a l).1 ha with rfl | ha
   · omega
   · exact h2.1 a ha
theorem with_mem {n a : Int} {b : Bool} {l : List Int} : a ∈ withS n (!b) l ↔ (if b = true then a = n ∨ a ∈ l else a ∈ l ∧ a ≠ n) := by
 cases b with
 | true => rw [if_pos rfl]; exact withS_mem n a l
 | false => rw [if_neg (by decide)]; show a ∈ withS n true l ↔ _; rw [withS_true]; simp
theorem with_sorted {n : Int} {b : Bool} {l : List Int} (h : l.Pairwise (· < ·)) : (withS n (!b) l).Pairwise (· < ·) := by
 cases b with
 | true => exact withS_sorted n l h
 | false => show (withS n true l).Pairwise _; rw [withS_true]; exact h.filter _
end Go.Q
namespace Go.Q
open Go.MapKept
theorem modify_map {β γ : Type} (f : β → β) (g : β → γ) (z : γ) (hz : ∀ e, g (f e) = z) : ∀ (l : List β) (i : Nat), (l.modify i f).map g = (l.map g).set i z
 | [], i => by simp
 | e :: t, 0 => by simp [hz]
 | e :: t, i + 1 => by simp [modify_map f g z hz t i]
theorem Has.setMap {E w : World} {ss : List (List Hp)} {b : Nat} {o o' : Obj} (H : Has E w ([Hp.one b o] :: ss)) : Has E { w with heap := w.heap.setIfInBounds b o' } ([Hp.one b o'] :: ss) := by
 have hwb : w.heap[b]? = some o := H.at (h := Hp.one b o) (by simp) (Hp.one_at _ _)
 have hlt : b < w.heap.size := (Array.getElem?_eq_some_iff.1 hwb).1
 refine Has0.write (an := [Hp.one b o]) (an' := [Hp.one b o']) (hs := ss.flatten) H rfl rfl rfl (by simp) ?_ ?_ ?_
 ·
  intro k hk
  have hk := hk _ (List.mem_singleton.2 rfl)
  refine .inl fun h hh => ?_
  rw [List.mem_singleton.1 hh]
  unfold Hp.one at hk ⊢
  split at hk
  · cases hk
  · rw [if_neg (by assumption)]
 ·
  intro h hh k o hk
  rw [List.mem_singleton.1 hh] at hk
  obtain ⟨rfl, rfl⟩ := Hp.one_some hk
  simp [hlt]
 ·
  intro k _ hk
  have hk := hk _ (List.mem_singleton.2 rfl)
  have : k ≠ b := by rintro rfl; rw [Hp.one_at] at hk; cases hk
  simp [Array.getElem?_setIfInBounds, Ne.symm this]
section ops
variable {P : Program} {ρ : Operand → Value} {E w : World} {ss : List (List Hp)} {K : Value → World → Prop} {dst : Option Tmp} {T : TypeId} {pos : String} {after : Array Edge} {g : Option (Nat × Bool)}
end ops
end Go.Q
namespace Go.Q
open Go.MapKept
section
variable {κ β : Type} [DecidableEq κ]
def lookB : List (κ × β) → κ → Nat → Option (Nat × β)
 | [], _, _ => none
 | (a, v) :: t, k, i => if k = a then some (i, v) else lookB t k (i + 1)
def getB : List (κ × β) → κ → Option β
 | [], _ => none
 | (a, v) :: t, k => if k = a then some v else getB t k
def putB : List (κ × β) → κ → β → List (κ × β)
 | [], k, v => [(k, v)]
 | (a, u) :: t, k, v => if k = a then (k, v) :: t else (a, u) :: putB t k v
def delB : List (κ × β) → κ → List (κ × β)
 | [], _ => []
 | (a, u) :: t, k => if k = a then t else (a, u) :: delB t k
theorem lookB_shift (k : κ) : ∀ (l : List (κ × β)) (i : Nat), lookB l k i = (lookB l k 0).map fun p => (p.1 + i, p.2)
 | [], _ => rfl
 | (a, v) :: t, i => by
  simp only [lookB]
  split
  · simp
  ·
   rw [lookB_shift k t (i + 1), lookB_shift k t 1]
   cases lookB t k 0 <;> simp; omega
theorem lookB_val (k : κ) : ∀ (l : List (κ × β)) (i : Nat), (lookB l k i).map (·.2) = getB l k
 | [], _ => rfl
 | (a, v) :: t, i => by
  simp only [lookB, getB]
  split
  · rfl
  · exact lookB_val k t (i + 1)
theorem lookB_cons {a k : κ} {u v : β} {t : List (κ × β)} {i : Nat} (hne : k ≠ a) (h : lookB ((a, u) :: t) k 0 = some (i, v)) : ∃ j, i = j + 1 ∧ lookB t k 0 = some (j, v) := by
 rw [lookB, if_neg hne, lookB_shift] at h
 cases hl : lookB t k 0 with
 | none => rw [hl] at h; cases h
 | some p =>
  rw [hl] at h
  obtain ⟨j, x⟩ := p
  simp only [Option.map_some, Option.some.injEq, Prod.mk.injEq] at h
  exact ⟨j, by omega, by rw [h.2]⟩
theorem lookB_get (k : κ) : ∀ (l : List (κ × β)) (i : Nat) (v : β), lookB l k 0 = some (i, v) → l[i]? = some (k, v)
 | [], _, _, h => by cases h
 | (a, u) :: t, i, v, h => by
  by_cases g : k = a
  ·
   rw [lookB, if_pos g] at h
   simp only [Option.some.injEq, Prod.mk.injEq] at h
   obtain ⟨rfl, rfl⟩ := h; subst g; rfl
  ·
   obtain ⟨j, rfl, h'⟩ := lookB_cons g h
   simpa using lookB_get k t j v h'
theorem putB_at (k : κ) (v : β) : ∀ (l : List (κ × β)) (i : Nat) (u : β), lookB l k 0 = some (i, u) → putB l k v = l.set i (k, v)
 | [], _, _, h => by cases h
 | (a, x) :: t, i, u, h => by
  rw [putB]
  by_cases g : k = a
  ·
   rw [lookB, if_pos g] at h
   simp only [Option.some.injEq, Prod.mk.injEq] at h
   obtain ⟨rfl, rfl⟩ := h; rw [if_pos g]; rfl
  ·
   obtain ⟨j, rfl, h'⟩ := lookB_cons g h
   rw [if_neg g, putB_at k v t j u h']; rfl
theorem putB_new (k : κ) (v : β) : ∀ (l : List (κ × β)) (i : Nat), lookB l k i = none → putB l k v = l ++ [(k, v)]
 | [], _, _ => rfl
 | (a, x) :: t, i, h => by
  rw [lookB] at h
  split at h
  · cases h
  · rename_i g; rw [putB, if_neg g, putB_new k v t (i + 1) h]; rfl
theorem getB_put (k : κ) (v : β) (k' : κ) : ∀ l : List (κ × β), getB (putB l k v) k' = if k' = k then some v else getB l k'
 | [] => by simp [putB, getB]
 | (a, u) :: t => by
  rw [putB]
  split
  · rename_i h; subst h; simp only [getB]; split <;> rfl
  ·
   rename_i h
   simp only [getB]; rw [getB_put k v k' t]
   split
   · rename_i g; rw [if_neg (fun e => h (e.symm.trans g))]
   · rfl
theorem getB_mem {k : κ} : ∀ {l : List (κ × β)}, (getB l k).isSome = true ↔ k ∈ l.map (·.1)
 | [] => by simp [getB]
 | (a, u) :: t => by
  rw [getB, List.map_cons, List.mem_cons]
  split
  · simp [*]
  · rw [getB_mem]; simp [*]
theorem getB_none {k : κ} {l : List (κ × β)} (h : k ∉ l.map (·.1)) : getB l k = none := by
 cases e : getB l k with
 | none => rfl
 | some v => exact absurd (getB_mem.1 (by rw [e]; rfl)) h
theorem getB_del (k k' : κ) : ∀ l : List (κ × β), (l.map (·.1)).Nodup → getB (delB l k) k' = if k' = k then none else getB l k'
 | [], _ => by simp [delB, getB]
 | (a, u) :: t, hn => by
  have h2 := List.nodup_cons.1 hn
  rw [delB]
  split
  ·
   rename_i h
   subst h
   simp only [getB]
   split
   · rename_i g; subst g; exact getB_none h2.1
   · rfl
  ·
   rename_i h
   simp only [getB]; rw [getB_del k k' t h2.2]
   split
   · rename_i g; rw [if_neg (fun e => h (e.symm.trans g))]
   · rfl
theorem delB_sub (k : κ) : ∀ l : List (κ × β), (delB l k).Sublist l
 | [] => .slnil
 | (a, u) :: t => by
  rw [delB]
  split
  · exact List.sublist_cons_self _ _
  · exact (delB_sub k t).cons_cons _
end
structure KeyAt {κ : Type} [DecidableEq κ] (P : Program) (kt : TypeId) (g : κ → Value) : Prop where
 inj : ∀ a b, g a = g b → a = b
 now : ∃ d, P.underlying kt = some d ∧ (∀ a, IsKey d (g a)) ∧ ∀ a b, Instr.sameNow d (g a) (g b) = some (decide (a = b))
 bits : ∀ a, Instr.sameBits 10000 (g a) (g a) = true
section
variable {κ β : Type}
def MapV (g : κ → Value) (f : β → Value) (es : Array MapEntry) (c : Nat) (l : List (κ × β)) : Prop := es.toList.map (fun e : MapEntry => (e.key, e.val)) = l.map (fun p => (g p.1, f p.2)) ∧ Stamped es c
theorem MapV.nil {g : κ → Value} {f : β → Value} : MapV g f #[] 0 [] := ⟨rfl, stamped_empty 0⟩
theorem MapV.empty {g : κ → Value} {f : β → Value} (c : Nat) : MapV g f #[] c [] := ⟨rfl, stamped_empty c⟩
theorem MapV.keys {g : κ → Value} {f : β → Value} {es : Array MapEntry} {c : Nat} {l : List (κ × β)} (h : MapV g f es c l) : es.toList.map (·.key) = l.map (fun p => g p.1) := by
 have := congrArg (List.map (·.1)) h.1
 simpa [List.map_map, Function.comp_def] using this
theorem MapV.nodup {g : κ → Value} {f : β → Value} {es : Array MapEntry} {c : Nat} {l : List (κ × β)} (h : MapV g f es c l) : (l.map (·.1)).Nodup := by
 have h1 := h.2.2.2
 rw [h.keys] at h1
 refine List.pairwise_map.2 ((List.pairwise_map.1 h1).imp fun hne e => hne (by rw [e]))
theorem MapV.size {g : κ → Value} {f : β → Value} {es : Array MapEntry} {c : Nat} {l : List (κ × β)} (h : MapV g f es c l) : es.size = l.length := by
 have := congrArg List.length h.1; simpa using this
end
section
variable {κ β : Type} [DecidableEq κ]
theorem findNow_key {g : κ → Value} {f : β → Value} {d : TypeDesc} (hd : ∀ a b, Instr.sameNow d (g a) (g b) = some (decide (a = b))) (k : κ) : ∀ (es : List MapEntry) (l : List (κ × β)) (i : Nat), es.map (fun e : MapEntry => (e.key, e.val)) = l.map (fun p => (g p.1, f p.2)) →
  Instr.findNow d (g k) es i = some ((lookB l k i).map fun p => (p.1, f p.2))
 | [], [], i, _ => rfl
 | [], _ :: _, i, h => by simp at h
 | _ :: _, [], i, h => by simp at h
 | e :: es, (a, v) :: l, i, h => by
  simp only [List.map_cons, List.cons.injEq, Prod.mk.injEq] at h
  obtain ⟨⟨h1, h2⟩, h3⟩ := h
  unfold Instr.findNow
  rw [h1, hd]
  by_cases e : k = a
  · rw [decide_eq_true e]; simp [lookB, e, h2]
  ·
   rw [decide_eq_false e]; simp only
   rw [findNow_key hd k es l (i + 1) h3]; simp [lookB, e]
end
def valB {β : Type} (f : β → Value) (z : Value) : Option β → Value
 | some v => f v
 | none => z
section ops
variable {P : Program} {ρ : Operand → Value} {E w : World} {ss : List (List Hp)} {K : Value → World → Prop} {dst : Option Tmp} {T : TypeId} {pos : String} {after : Array Edge} {g : Option (Nat × Bool)}
variable {κ β : Type} [DecidableEq κ] {gk : κ → Value} {f : β → Value}
theorem o_lookupB {x y : Operand} {t kt et : TypeId} {b : Nat} {es : Array MapEntry} {c : Nat} {l : List (κ × β)} {z : Value} {sz by_ : Nat} {k : κ} {ok : Bool} (ht : P.underlying t = some (.map kt et)) (hk : KeyAt P kt gk) (hz : TI P et z sz by_)
  (hx : ρ x = .map (some b)) (hy : ρ y = gk k) (H : Has E w ss) {L : List Hp} (hL : L ⊆ ss.flatten) (hb : L = [Hp.one b (.map es c)]) (he : MapV gk f es c l)
  (hK : K (if ok then .tuple #[valB f z (getB l k), .bool (getB l k).isSome] else valB f z (getB l k)) w) :
  OK P ⟨dst, .lookup t x y ok, T, pos, after, g⟩ ρ w K := by
 have hwb := H.at (hL (by rw [hb]; exact List.mem_singleton.2 rfl)) (Hp.one_at b (.map es c))
 obtain ⟨d, hd, hik, hnow⟩ := hk.now
 refine OK.val (run_v ?_) hK
 rw [hx, hy]
 have hf := run_findKey (P := P) (w := w) hd (findNow_key (f := f) hnow k es.toList l 0 he.1)
 obtain ⟨i, hi, hiz, _, _⟩ := hz
 have hc : (Instr.checkKey es.isEmpty 10000 kt (gk k)).run P w = .ok () w := run_checkKey hd (hik k) es.isEmpty 9999
 have hg : (getObj b).run P w = .ok (.map es c) w := by simp [getObj, Sem.run, hwb]
 have hv := lookB_val (β := β) k l 0
 cases hl : lookB l k 0 with
 | none =>
  rw [hl] at hf hv
  have hv : getB l k = none := hv.symm
  rw [hv]
  cases ok <;> simp [Instr.lookup, run_underlying ht, hg, hf, hc, zeroValue, typeInfo, hi, hiz, Result.andThen, valB]
 | some p =>
  rw [hl] at hf hv
  have hv : getB l k = some p.2 := hv.symm
  rw [hv]
  cases ok <;> simp [Instr.lookup, run_underlying ht, hg, hf, hc, Result.andThen, valB]
theorem o_mapUpdateB {x y u : Operand} {t kt et : TypeId} {b : Nat} {es : Array MapEntry} {c : Nat} {l : List (κ × β)} {v : β} {k : κ} (ht : P.underlying t = some (.map kt et)) (hk : KeyAt P kt gk)
  (hx : ρ x = .map (some b)) (hy : ρ y = gk k) (hu : ρ u = f v) (H : Has E w ([Hp.one b (.map es c)] :: ss)) (he : MapV gk f es c l)
  (hK : ∀ es' c' w', MapV gk f es' c' (putB l k v) → Has E w' ([Hp.one b (.map es' c')] :: ss) → K undef w') :
  OK P ⟨dst, .mapUpdate t x y u, T, pos, after, g⟩ ρ w K := by
 have hwb : w.heap[b]? = some (.map es c) := H.at (h := Hp.one b (.map es c)) (by simp) (Hp.one_at _ _)
 obtain ⟨d, hd, hik, hnow⟩ := hk.now
 have hf := run_findKey (P := P) (w := w) hd (findNow_key (f := f) hnow k es.toList l 0 he.1)
 have hc : (Instr.checkKey false 10000 kt (gk k)).run P w = .ok () w := run_checkKey hd (hik k) false 9999
 have hg : (getObj b).run P w = .ok (.map es c) w := by simp [getObj, Sem.run, hwb]
 have hs : ∀ o, (setObj b o).run P w = .ok () { w with heap := w.heap.setIfInBounds b o } := fun o => run_setObj_map o hwb
 cases hl : lookB l k 0 with
 | none =>
  rw [hl] at hf
  refine OK.skip (w' := { w with heap := w.heap.setIfInBounds b (.map (es.push ⟨gk k, f v, c⟩) (c + 1)) }) (run_u ?_) (hK _ _ _ ⟨?_, stamped_push he.2 ?_⟩ H.setMap)
  · rw [hx, hy, hu]; simp [Instr.mapUpdate, run_underlying ht, hg, hf, hc, hs, Result.andThen]
  · rw [putB_new k v l 0 hl]; simp [he.1]
  ·
   intro x hx e
   have h1 : x.key ∈ es.toList.map (·.key) := List.mem_map.2 ⟨x, hx, rfl⟩
   rw [he.keys, e] at h1
   obtain ⟨p, hp, hpe⟩ := List.mem_map.1 h1
   have hpk := hk.inj _ _ hpe
   have h2 := (getB_mem (k := k) (l := l)).2 (List.mem_map.2 ⟨p, hp, hpk⟩)
   rw [← lookB_val k l 0, hl] at h2; cases h2
 | some p =>
  obtain ⟨i, v0⟩ := p
  rw [hl] at hf
  have hi := lookB_get k l i v0 hl
  have hes : ∃ e, es[i]? = some e ∧ e.key = gk k := by
   have h1 : (es.toList.map (fun e : MapEntry => (e.key, e.val)))[i]? = some (gk k, f v0) := by rw [he.1, List.getElem?_map, hi]; rfl
   rw [List.getElem?_map, Option.map_eq_some_iff] at h1
   obtain ⟨e, h2, h3⟩ := h1
   exact ⟨e, by simpa using h2, congrArg Prod.fst h3⟩
  obtain ⟨e, h2, h3⟩ := hes
  have hst : (Instr.keyThatStays (gk k) (gk k)).run P w = .ok (gk k) w := by simp [Instr.keyThatStays, hk.bits k]
  refine OK.skip (w' := { w with heap := w.heap.setIfInBounds b (.map (es.modify i fun e => { e with key := gk k, val := f v }) c) }) (run_u ?_) (hK _ _ _ ⟨?_, stamped_modify he.2 i (fun e => { e with key := gk k, val := f v }) (fun _ _ => rfl) (fun e' _ h => ?_)⟩ H.setMap)
  · rw [hx, hy, hu]; simp [Instr.mapUpdate, run_underlying ht, hg, hf, hc, hs, Result.andThen, h2, h3, hst]
  · rw [putB_at k v l i v0 hl, Array.toList_modify, modify_map (fun e : MapEntry => { e with key := gk k, val := f v }) (fun e : MapEntry => (e.key, e.val)) (gk k, f v) (fun _ => rfl), he.1, List.map_set]
  · rw [h2] at h; cases h; exact h3.symm
end ops
section ops
variable {P : Program} {ρ : Operand → Value} {E w : World} {ss : List (List Hp)} {K : Value → World → Prop} {dst : Option Tmp} {T : TypeId} {pos : String} {after : Array Edge} {g : Option (Nat × Bool)}
variable {κ β : Type} {gk : κ → Value} {f : β → Value}
theorem o_clearMap {x : Operand} {t kt et : TypeId} {b : Nat} {es : Array MapEntry} {c : Nat} {l : List (κ × β)} (ht : P.underlying t = some (.map kt et))
  (hx : ρ x = .map (some b)) (H : Has E w ([Hp.one b (.map es c)] :: ss)) (he : MapV gk f es c l)
  (hK : ∀ es' c' w', MapV gk f es' c' ([] : List (κ × β)) → Has E w' ([Hp.one b (.map es' c')] :: ss) → K (.tuple #[]) w') :
  OK P ⟨dst, .call ⟨.builtin .clear, #[x], #[t]⟩, T, pos, after, g⟩ ρ w K := by
 have hwb : w.heap[b]? = some (.map es c) := H.at (h := Hp.one b (.map es c)) (by simp) (Hp.one_at _ _)
 have hg : (getObj b).run P w = .ok (.map es c) w := by simp [getObj, Sem.run, hwb]
 have hs : ∀ o, (setObj b o).run P w = .ok () { w with heap := w.heap.setIfInBounds b o } := fun o => run_setObj_map o hwb
 refine zV (v := .tuple #[]) (w' := { w with heap := w.heap.setIfInBounds b (.map #[] c) }) ?_ (hK _ _ _ (MapV.empty c) H.setMap)
 simp [hx, builtin, Builtin.clear_, run_underlying ht, hg, hs, Result.andThen]
end ops
section ops
variable {P : Program} {ρ : Operand → Value} {E w : World} {ss : List (List Hp)} {K : Value → World → Prop} {dst : Option Tmp} {T : TypeId} {pos : String} {after : Array Edge} {g : Option (Nat × Bool)}
variable {κ : Type} [DecidableEq κ] {gk : κ → Value}
theorem valB_S (o : Option (List UInt8)) : valB sV (S []) o = S (o.getD []) := by cases o <;> rfl
theorem o_lookupSk {x y : Operand} {t kt et : TypeId} {b : Nat} {es : Array MapEntry} {c : Nat} {l : List (κ × List UInt8)} {sz by_ : Nat} {k : κ} (ht : P.underlying t = some (.map kt et)) (hk : KeyAt P kt gk) (hz : TI P et (S []) sz by_)
  (hx : ρ x = .map (some b)) (hy : ρ y = gk k) (H : Has E w ss) {L : List Hp} (hL : L ⊆ ss.flatten) (hb : L = [Hp.one b (.map es c)]) (he : MapV gk sV es c l)
  (hK : K (.tuple #[S ((getB l k).getD []), .bool (getB l k).isSome]) w) : OK P ⟨dst, .lookup t x y true, T, pos, after, g⟩ ρ w K :=
 o_lookupB (f := sV) ht hk hz hx hy H hL hb he (by rw [if_pos rfl, valB_S]; exact hK)
end ops
theorem key_int {P : Program} {kt : TypeId} (h : P.underlying kt = some (.int .i64)) : KeyAt P kt iV :=
 ⟨fun a b e => by simpa [iV] using e, ⟨_, h, fun _ => rfl, fun a b => by simp only [iV, Instr.sameNow, if_true]; rfl⟩, fun a => by simp [iV, Instr.sameBits]⟩
end Go.Q
namespace Go.Q
structure Pw where
 off : Bool
 armed : Bool
 left : Int
 uses : Int
def useS (p : Pw) : Pw := if p.off = true then p else ⟨p.armed && decide (p.left = 0), p.armed, p.left - 1, p.uses + 1⟩
def useB (p : Pw) : Bool := !p.off && !(useS p).off
def backS (p : Pw) : Pw := ⟨false, false, p.left, p.uses⟩
def armS (p : Pw) (n : Int) : Pw := ⟨p.off, true, max n 0, p.uses⟩
def PwOk (p : Pw) : Prop := 0 ≤ p.uses ∧ p.uses ≤ 4000000000000000000 ∧ -4000000000000000000 ≤ p.left ∧ p.left ≤ 9223372036854775807
def blankS : Bs := List.replicate 64 0
def fillS (s : Bs) : Bs := s ++ blankS.drop s.length
theorem blank_len : blankS.length = 64 := rfl
theorem fill_len {s : Bs} (h : s.length ≤ 64) : (fillS s).length = 64 := by unfold fillS; rw [List.length_append, List.length_drop, blank_len]; omega
def settleS (lo : List (Int × Bs)) (la : List Bs) (keep : List Int) : List Bs := keep.foldl (fun acc n => match getB lo n with | some s => acc.set n.toNat s | none => acc) la
theorem settle_len (lo : List (Int × Bs)) : ∀ (keep : List Int) (la : List Bs), (settleS lo la keep).length = la.length
 | [], _ => rfl
 | n :: keep, la => by
  show (settleS lo _ keep).length = _
  rw [settle_len lo keep]
  show (match getB lo n with | some s => la.set n.toNat s | none => la).length = _
  split <;> simp
theorem settle_step {lo : List (Int × Bs)} {la : List Bs} {keep : List Int} {k : Nat} {n : Int} (h : keep[k]? = some n) : settleS lo la (keep.take (k + 1)) = match getB lo n with | some s => (settleS lo la (keep.take k)).set n.toNat s | none => settleS lo la (keep.take k) := by
 unfold settleS; rw [zS h, List.foldl_append]; rfl
theorem settle_yes {lo : List (Int × Bs)} {la : List Bs} {keep : List Int} {k : Nat} {n : Int} (h : keep[k]? = some n) (g : (getB lo n).isSome = true) : settleS lo la (keep.take (k + 1)) = (settleS lo la (keep.take k)).set n.toNat ((getB lo n).getD []) := by
 rw [settle_step h]
 cases e : getB lo n with
 | none => rw [e] at g; cases g
 | some s => rfl
theorem settle_no {lo : List (Int × Bs)} {la : List Bs} {keep : List Int} {k : Nat} {n : Int} (h : keep[k]? = some n) (g : (getB lo n).isSome = false) : settleS lo la (keep.take (k + 1)) = settleS lo la (keep.take k) := by
 rw [settle_step h]
 cases e : getB lo n with
 | none => rfl
 | some s => rw [e] at g; cases g
def inS (n : Int) (k : Nat) : Prop := 0 ≤ n ∧ n < (k : Int)
instance (n : Int) (k : Nat) : Decidable (inS n k) := inferInstanceAs (Decidable (_ ∧ _))
def LoOk (lo : List (Int × Bs)) (k : Nat) : Prop := ∀ p ∈ lo, inS p.1 k ∧ p.2.length = 64
theorem LoOk.get {lo : List (Int × Bs)} {k : Nat} (h : LoOk lo k) {n : Int} (g : (getB lo n).isSome = true) : inS n k := by
 obtain ⟨p, hp, rfl⟩ := List.mem_map.1 (getB_mem.1 g)
 exact (h p hp).1
def keysS (lo : List (Int × Bs)) : List Int := (lo.map (·.1)).mergeSort (fun x y => decide (x ≤ y))
def readS (p : Pw) (la : List Bs) (lo : List (Int × Bs)) (n : Int) : Bs := if p.off = true then [] else if inS n la.length then (if (getB lo n).isSome = true then (getB lo n).getD [] else (la[n.toNat]?).getD []) else []
def readE (p : Pw) (la : List Bs) (n : Int) : Int := if p.off = true then 6 else if inS n la.length then 0 else 1
def writeE (p : Pw) (k : Nat) (n : Int) (s : Bs) : Int := if useB p = true then (if s.length ≤ 64 ∧ inS n k then 0 else 1) else 6
def writeS (p : Pw) (k : Nat) (lo : List (Int × Bs)) (n : Int) (s : Bs) : List (Int × Bs) := if useB p = true ∧ s.length ≤ 64 ∧ inS n k then putB lo n (fillS s) else lo
def syncE (p : Pw) : Int := if useB p = true then 0 else 6
def syncA (p : Pw) (la : List Bs) (lo : List (Int × Bs)) : List Bs := if useB p = true then settleS lo la (keysS lo) else la
def syncO (p : Pw) (lo : List (Int × Bs)) : List (Int × Bs) := if useB p = true then [] else lo
def lastsS (la : List Bs) (n : Int) : Bs := if inS n la.length then (la[n.toNat]?).getD [] else []
def putE (k : Nat) (n : Int) (s : Bs) : Int := if s.length ≤ 64 ∧ inS n k then 0 else 1
def putA (la : List Bs) (n : Int) (s : Bs) : List Bs := if s.length ≤ 64 ∧ inS n la.length then la.set n.toNat (fillS s) else la
def putO (k : Nat) (lo : List (Int × Bs)) (n : Int) (s : Bs) : List (Int × Bs) := if s.length ≤ 64 ∧ inS n k then delB lo n else lo
theorem Has.open3 {E w : World} {a b c : List Hp} {ss : List (List Hp)} (H : Has E w ((a ++ (b ++ c)) :: ss)) : Has E w (a :: b :: c :: ss) := by
 unfold Has at *; simpa [List.append_assoc] using H
theorem Has.close3 {E w : World} {a b c : List Hp} {ss : List (List Hp)} (H : Has E w (a :: b :: c :: ss)) : Has E w ((a ++ (b ++ c)) :: ss) := by
 unfold Has at *; simpa [List.append_assoc] using H
theorem Has.of_all5 {E w : World} {a0 a1 a2 a3 a4 : List Hp} {ss : List (List Hp)} (H : Has E w [a0, a1, a2, a3, a4, ss.flatten]) : Has E w (a0 :: a1 :: a2 :: a3 :: a4 :: ss) := by unfold Has at *; simpa using H
theorem Has.of_all6 {E w : World} {a0 a1 a2 a3 a4 a5 : List Hp} {ss : List (List Hp)} (H : Has E w [a0, a1, a2, a3, a4, a5, ss.flatten]) : Has E w (a0 :: a1 :: a2 :: a3 :: a4 :: a5 :: ss) := by unfold Has at *; simpa using H
end Go.Q
namespace Go.Q
abbrev yP (b : Nat) (p : Pw) : List Hp := [Hp.one b (.cells #[(.bool p.off), (.bool p.armed), (.int .i64 p.left), (.int .i64 p.uses)] 145 (0, 0))]
end Go.Q
namespace Go.Q
abbrev Cel := Bs × Bs
def ceC (c : Cel) : List Value := [S c.1, S c.2]
def Rises (l : List Cel) : Prop := l.Pairwise fun a b => a.1 < b.1
instance (l : List Cel) : Decidable (Rises l) := inferInstanceAs (Decidable (l.Pairwise fun a b => a.1 < b.1))
def celOk (c : Cel) : Bool := keyR c.1 && valR (true, c.2)
def cellsR (l : List Cel) : Bool := l.all celOk && decide (Rises l) && decide (l.length ≤ 8)
def pageR (no gsn : Int) (l : List Cel) : Bool := decide (0 ≤ no ∧ no < 64 ∧ 0 ≤ gsn ∧ gsn ≤ 4611686018427387903) && cellsR l
theorem cellsR_iff {l : List Cel} : cellsR l = true ↔ (∀ c ∈ l, celOk c = true) ∧ Rises l ∧ l.length ≤ 8 := by
 unfold cellsR; rw [Bool.and_eq_true, Bool.and_eq_true, List.all_eq_true, decide_eq_true_iff, decide_eq_true_iff, and_assoc]
end Go.Q
namespace Go.Q
theorem pageR_iff {no gsn : Int} {l : List Cel} : pageR no gsn l = true ↔ (0 ≤ no ∧ no < 64 ∧ 0 ≤ gsn ∧ gsn ≤ 4611686018427387903) ∧ cellsR l = true := by
 unfold pageR; rw [Bool.and_eq_true, decide_eq_true_iff]
end Go.Q
namespace Go.Q
end Go.Q
namespace Go.Q
end Go.Q
namespace Go.Q
def cb (r : BitVec 32) : BitVec 32 := if r.getLsbD 0 then (r >>> 1) ^^^ 0xedb88320#32 else r >>> 1
def cbs : Nat → BitVec 32 → BitVec 32
 | 0, r => r
 | n + 1, r => cbs n (cb r)
def b32 (b : UInt8) : BitVec 32 := BitVec.ofNat 32 b.toNat
def cby (r : BitVec 32) (b : UInt8) : BitVec 32 := cbs 8 (r ^^^ b32 b)
def crcF (r : BitVec 32) (l : List UInt8) : BitVec 32 := l.foldl cby r
def crcS (l : List UInt8) : BitVec 32 := ~~~ (crcF (0xffffffff#32) l)
theorem cb_xor (a b : BitVec 32) : cb (a ^^^ b) = cb a ^^^ cb b := by
 unfold cb
 rw [BitVec.getLsbD_xor, BitVec.ushiftRight_xor_distrib]
 generalize a >>> 1 = x
 generalize b >>> 1 = y
 generalize (0xedb88320#32 : BitVec 32) = c
 have e1 : x ^^^ (y ^^^ c) = x ^^^ y ^^^ c := (BitVec.xor_assoc x y c).symm
 have e2 : x ^^^ c ^^^ y = x ^^^ y ^^^ c := by rw [BitVec.xor_assoc, BitVec.xor_comm c y, e1]
 have e3 : x ^^^ c ^^^ (y ^^^ c) = x ^^^ y := by rw [← BitVec.xor_assoc, e2, BitVec.xor_assoc, BitVec.xor_self, BitVec.xor_zero]
 cases a.getLsbD 0 <;> cases b.getLsbD 0 <;> simp [e1, e2, e3]
theorem cb_even {a : BitVec 32} (h : a.getLsbD 0 = false) : cb a = a >>> 1 := by unfold cb; rw [h]; rfl
theorem cbs_xor : ∀ (n : Nat) (a b : BitVec 32), cbs n (a ^^^ b) = cbs n a ^^^ cbs n b
 | 0, _, _ => rfl
 | n + 1, a, b => by rw [cbs, cb_xor, cbs_xor n]; rfl
theorem cbs_add (a b : Nat) : ∀ r, cbs (a + b) r = cbs b (cbs a r) := by
 induction a with
 | zero => intro r; rw [Nat.zero_add]; rfl
 | succ a ih => intro r; rw [Nat.succ_add]; exact ih _
theorem cbs_high : ∀ (n : Nat) (a : BitVec 32), (∀ i, i < n → a.getLsbD i = false) → cbs n a = a >>> n
 | 0, a, _ => by simp [cbs]
 | n + 1, a, h => by
  rw [cbs, cb_even (h 0 (by omega)), cbs_high n _ (fun i hi => by
   rw [BitVec.getLsbD_ushiftRight, Nat.add_comm]; exact h (i + 1) (by omega))]
  rw [← BitVec.shiftRight_add, Nat.add_comm]
def nib (i : Nat) : BitVec 32 := cbs 4 (BitVec.ofNat 32 i)
theorem split4 (r : BitVec 32) : r = (r &&& ~~~ 15#32) ^^^ (r &&& 15#32) := by
 apply BitVec.eq_of_getLsbD_eq
 intro i hi
 simp only [BitVec.getLsbD_xor, BitVec.getLsbD_and, BitVec.getLsbD_not]
 cases r.getLsbD i <;> simp [hi]
theorem cbs4 (r : BitVec 32) : cbs 4 r = (r >>> 4) ^^^ nib (r &&& 15#32).toNat := by
 have hl : ∀ i, i < 4 → (r &&& ~~~ 15#32).getLsbD i = false := fun i hi => by
  have : (~~~ 15#32).getLsbD i = false := by
   rcases i with _ | _ | _ | _ | i <;> first | decide | omega
  rw [BitVec.getLsbD_and, this, Bool.and_false]
 have e1 : (r &&& ~~~ 15#32) >>> 4 = r >>> 4 := by
  apply BitVec.eq_of_getLsbD_eq
  intro i hi
  rw [BitVec.getLsbD_ushiftRight, BitVec.getLsbD_ushiftRight, BitVec.getLsbD_and]
  by_cases hb : 4 + i < 32
  ·
   have : ∀ j, j < 28 → (~~~ 15#32).getLsbD (4 + j) = true := by decide
   rw [this i (by omega), Bool.and_true]
  · rw [BitVec.getLsbD_of_ge r _ (by omega)]; rfl
 conv => lhs; rw [split4 r]
 rw [cbs_xor, cbs_high 4 _ hl, e1]
 unfold nib
 rw [BitVec.ofNat_toNat, BitVec.setWidth_eq]
theorem step_bit (r x : BitVec 32) : cb (r ^^^ (x &&& 1#32)) ^^^ (x >>> 1) = cb (r ^^^ x) := by
 have e : x = (x &&& 1#32) ^^^ (x &&& ~~~ 1#32) := by
  apply BitVec.eq_of_getLsbD_eq
  intro i hi
  simp only [BitVec.getLsbD_xor, BitVec.getLsbD_and, BitVec.getLsbD_not]
  cases x.getLsbD i <;> simp [hi]
 have h0 : (x &&& ~~~ 1#32).getLsbD 0 = false := by
  rw [BitVec.getLsbD_and]; simp
 have h1 : (x &&& ~~~ 1#32) >>> 1 = x >>> 1 := by
  apply BitVec.eq_of_getLsbD_eq
  intro i hi
  rw [BitVec.getLsbD_ushiftRight, BitVec.getLsbD_ushiftRight, BitVec.getLsbD_and]
  by_cases hb : 1 + i < 32
  ·
   have : ∀ j, j < 31 → (~~~ 1#32).getLsbD (1 + j) = true := by decide
   rw [this i (by omega), Bool.and_true]
  · rw [BitVec.getLsbD_of_ge x _ (by omega)]; rfl
 conv => rhs; rw [e, ← BitVec.xor_assoc, cb_xor, cb_even h0, h1]
theorem crcF_append (r : BitVec 32) (a b : List UInt8) : crcF r (a ++ b) = crcF (crcF r a) b := List.foldl_append
end Go.Q
namespace Go.Q
def uV (x : BitVec 32) : Value := .int .u32 (x.toNat : Int)
theorem ofInt_toNat (x : BitVec 32) : BitVec.ofInt 32 (x.toNat : Int) = x := by
 rw [BitVec.ofInt_natCast, BitVec.ofNat_toNat, BitVec.setWidth_eq]
theorem wrap_u32 {n : Int} (h0 : 0 ≤ n) (h1 : n < 4294967296) : IntKind.wrap .u32 n = n := by
 simp only [IntKind.wrap, IntKind.bits, IntKind.signed]
 simp
 exact Int.emod_eq_of_lt h0 (by simpa using h1)
theorem u32_lt (x : BitVec 32) : (x.toNat : Int) < 4294967296 := by have := x.isLt; omega
theorem xor32 (x y : BitVec 32) : IntKind.wrap .u32 ((BitVec.ofInt 32 (x.toNat : Int) ^^^ BitVec.ofInt 32 (y.toNat : Int)).toNat : Int) = ((x ^^^ y).toNat : Int) := by
 rw [ofInt_toNat, ofInt_toNat, wrap_u32 (by omega) (u32_lt _)]
theorem and32 (x y : BitVec 32) : IntKind.wrap .u32 ((BitVec.ofInt 32 (x.toNat : Int) &&& BitVec.ofInt 32 (y.toNat : Int)).toNat : Int) = ((x &&& y).toNat : Int) := by
 rw [ofInt_toNat, ofInt_toNat, wrap_u32 (by omega) (u32_lt _)]
theorem shr32 (x : BitVec 32) (n : Nat) (h : n ≤ 32) : Int.fdiv (x.toNat : Int) (2 ^ (min ((n : Int)).toNat (IntKind.bits .u32))) = ((x >>> n).toNat : Int) := by
 rw [show min ((n : Int)).toNat (IntKind.bits .u32) = n from by simp [IntKind.bits]; omega, BitVec.toNat_ushiftRight, Nat.shiftRight_eq_div_pow,
  show ((2 : Int) ^ n) = ((2 ^ n : Nat) : Int) from by rw [Int.natCast_pow]; rfl, Int.fdiv_eq_ediv_of_nonneg _ (Int.natCast_nonneg _)]
 exact (Int.natCast_ediv _ _).symm
theorem shr8 (c : UInt8) (n : Nat) (h : n ≤ 8) : Int.fdiv (c.toNat : Int) (2 ^ (min ((n : Int)).toNat (IntKind.bits .u8))) = ((c.toNat >>> n : Nat) : Int) := by
 rw [show min ((n : Int)).toNat (IntKind.bits .u8) = n from by simp [IntKind.bits]; omega, Nat.shiftRight_eq_div_pow,
  show ((2 : Int) ^ n) = ((2 ^ n : Nat) : Int) from by rw [Int.natCast_pow]; rfl, Int.fdiv_eq_ediv_of_nonneg _ (Int.natCast_nonneg _)]
 exact (Int.natCast_ediv _ _).symm
theorem quo32 (x : BitVec 32) (m k : Nat) (hm : m = 2 ^ k) : IntKind.wrap .u32 ((x.toNat : Int).tdiv (m : Int)) = ((x >>> k).toNat : Int) := by
 subst hm
 rw [Int.tdiv_eq_ediv_of_nonneg (by omega), BitVec.toNat_ushiftRight, Nat.shiftRight_eq_div_pow, ← Int.natCast_ediv]
 exact wrap_u32 (Int.natCast_nonneg _) (Int.ofNat_lt.2 (Nat.lt_of_le_of_lt (Nat.div_le_self x.toNat (2 ^ k)) x.isLt))
theorem not32 (x : BitVec 32) : 4294967295 - (x.toNat : Int) = ((~~~ x).toNat : Int) := by
 rw [BitVec.toNat_not]; have := x.isLt; omega
theorem sub32 (x : BitVec 32) : IntKind.wrap .u32 (4294967295 - (x.toNat : Int)) = ((~~~ x).toNat : Int) := by
 rw [not32]; exact wrap_u32 (by omega) (u32_lt _)
theorem b32_nat (b : UInt8) : (b.toNat : Int) = ((b32 b).toNat : Int) := by
 unfold b32
 rw [BitVec.toNat_ofNat, Nat.mod_eq_of_lt (by have := b.toNat_lt; omega)]
theorem conv_b32 (b : UInt8) : IntKind.wrap .u32 (b.toNat : Int) = ((b32 b).toNat : Int) := by
 rw [b32_nat]; exact wrap_u32 (by omega) (u32_lt _)
def lo8 (x : BitVec 32) : UInt8 := UInt8.ofNat x.toNat
theorem conv_lo8 (x : BitVec 32) : IntKind.wrap .u8 (x.toNat : Int) = ((lo8 x).toNat : Int) := by
 simp only [IntKind.wrap, IntKind.bits, IntKind.signed]
 simp [lo8]
theorem and15_lt (x : BitVec 32) : (x &&& 15#32).toNat < 16 := by
 rw [BitVec.toNat_and]; exact Nat.lt_of_le_of_lt Nat.and_le_right (by decide)
def nibV : List Value := [.int .u32 0, .int .u32 498536548, .int .u32 997073096, .int .u32 651767980, .int .u32 1994146192, .int .u32 1802195444, .int .u32 1303535960, .int .u32 1342533948, .int .u32 3988292384, .int .u32 4027552580, .int .u32 3604390888, .int .u32 3412177804, .int .u32 2607071920, .int .u32 2262029012, .int .u32 2685067896, .int .u32 3183342108]
def nibL : List Int := [0, 498536548, 997073096, 651767980, 1994146192, 1802195444, 1303535960, 1342533948, 3988292384, 4027552580, 3604390888, 3412177804, 2607071920, 2262029012, 2685067896, 3183342108]
theorem nibV_L {i : Nat} {v : Value} (h : nibV[i]? = some v) : ∃ z, nibL[i]? = some z ∧ v = .int .u32 z := by
 have e : nibV = nibL.map (fun z => Value.int .u32 z) := rfl
 rw [e, List.getElem?_map, Option.map_eq_some_iff] at h
 obtain ⟨z, h1, h2⟩ := h
 exact ⟨z, h1, h2.symm⟩
theorem nibV_at : ∀ i, i < 16 → nibV[i]? = some (uV (nib i)) := by
 have : ∀ i, i < 16 → (nib i).toNat = [0, 498536548, 997073096, 651767980, 1994146192, 1802195444, 1303535960, 1342533948, 3988292384, 4027552580, 3604390888, 3412177804, 2607071920, 2262029012, 2685067896, 3183342108].getD i 0 := by decide
 intro i hi
 unfold uV
 rw [this i hi]
 rcases i with _ | _ | _ | _ | _ | _ | _ | _ | _ | _ | _ | _ | _ | _ | _ | _ | i <;> first | rfl | omega
theorem nib_at {L : List Hp} {g : Nat} (h : CellsAt L g 0 nibV) (x : BitVec 32) : CellsAt L g (0 + (x &&& 15#32).toNat) [uV (nib (x &&& 15#32).toNat)] :=
 h.sub fun j v hv => by
  cases j with
  | zero => rw [Nat.add_zero, nibV_at _ (and15_lt x)]; simpa using hv
  | succ j => simp at hv
theorem cby_nib (r : BitVec 32) (c : UInt8) : cby r c = (((r ^^^ b32 c) >>> 4 ^^^ nib ((r ^^^ b32 c) &&& 15#32).toNat) >>> 4) ^^^ nib (((r ^^^ b32 c) >>> 4 ^^^ nib ((r ^^^ b32 c) &&& 15#32).toNat) &&& 15#32).toNat := by
 rw [← cbs4, ← cbs4, ← cbs_add]; rfl
theorem cbs_succ' (n : Nat) (r : BitVec 32) : cbs (n + 1) r = cb (cbs n r) := cbs_add n 1 r
theorem bit_and1 (x : BitVec 32) : (x &&& 1#32).toNat = x.toNat % 2 := by
 rw [BitVec.toNat_and]; exact Nat.and_one_is_mod _
theorem bit0 (x : BitVec 32) : x.getLsbD 0 = decide (x.toNat % 2 = 1) := by
 rw [BitVec.getLsbD, Nat.testBit_zero]
theorem bit0_out (r x : BitVec 32) : (r ^^^ (x &&& 1#32)).getLsbD 0 = decide (r.toNat % 2 ≠ x.toNat % 2) := by
 rw [BitVec.getLsbD_xor, bit0, bit0, bit_and1]
 have h1 : r.toNat % 2 = 0 ∨ r.toNat % 2 = 1 := by omega
 have h2 : x.toNat % 2 = 0 ∨ x.toNat % 2 = 1 := by omega
 rcases h1 with h1 | h1 <;> rcases h2 with h2 | h2 <;> simp [h1, h2]
theorem shr_and1 (r x : BitVec 32) : (r ^^^ (x &&& 1#32)) >>> 1 = r >>> 1 := by
 rw [BitVec.ushiftRight_xor_distrib]
 have : (x &&& 1#32) >>> 1 = 0#32 := by
  apply BitVec.eq_of_toNat_eq
  rw [BitVec.toNat_ushiftRight, bit_and1, Nat.shiftRight_eq_div_pow]
  show x.toNat % 2 / 2 ^ 1 = 0
  omega
 rw [this, BitVec.xor_zero]
theorem b32_shr (c : UInt8) (j : Nat) : (b32 c >>> j).toNat = c.toNat >>> j := by
 rw [BitVec.toNat_ushiftRight]; congr 1; have := b32_nat c; omega
theorem bits_yes {r r0 : BitVec 32} {c : UInt8} {j : Nat} (h : r ^^^ (b32 c >>> j) = cbs j (r0 ^^^ b32 c)) (hb : (r.toNat : Int) % 2 ≠ ((c.toNat >>> j : Nat) : Int) % 2) (_h8 : j < 8) :
  ((r >>> 1) ^^^ 3988292384#32) ^^^ (b32 c >>> (j + 1)) = cbs (j + 1) (r0 ^^^ b32 c) := by
 have e : cb (r ^^^ ((b32 c >>> j) &&& 1#32)) = (r >>> 1) ^^^ 3988292384#32 := by
  unfold cb
  rw [if_pos (by rw [bit0_out, b32_shr]; exact decide_eq_true (by omega)), shr_and1]
 rw [← e, BitVec.shiftRight_add, step_bit, h, cbs_succ']
theorem bits_no {r r0 : BitVec 32} {c : UInt8} {j : Nat} (h : r ^^^ (b32 c >>> j) = cbs j (r0 ^^^ b32 c)) (hb : ¬ (r.toNat : Int) % 2 ≠ ((c.toNat >>> j : Nat) : Int) % 2) (_h8 : j < 8) :
  (r >>> 1) ^^^ (b32 c >>> (j + 1)) = cbs (j + 1) (r0 ^^^ b32 c) := by
 have e : cb (r ^^^ ((b32 c >>> j) &&& 1#32)) = r >>> 1 := by
  unfold cb
  rw [if_neg (by rw [bit0_out, b32_shr]; simp; omega), shr_and1]
 rw [← e, BitVec.shiftRight_add, step_bit, h, cbs_succ']
theorem bits_done {r r0 : BitVec 32} {c : UInt8} {j : Nat} (h : r ^^^ (b32 c >>> j) = cbs j (r0 ^^^ b32 c)) (h8 : j = 8) : r = cby r0 c := by
 subst h8
 have e : b32 c >>> 8 = 0#32 := by
  apply BitVec.eq_of_toNat_eq
  rw [b32_shr, Nat.shiftRight_eq_div_pow]
  have := c.toNat_lt
  show c.toNat / 256 = 0
  omega
 rw [e, BitVec.xor_zero] at h
 exact h
theorem crcF_snoc (r : BitVec 32) (l : List UInt8) (c : UInt8) : crcF r (l ++ [c]) = cby (crcF r l) c := by rw [crcF_append]; rfl
def laidS (x : BitVec 32) : List UInt8 := [lo8 x, lo8 (x >>> 8), lo8 (x >>> 16), lo8 (x >>> 24)]
theorem ye (x : BitVec 32) : (laidS x).length = 4 := rfl
theorem by8_lo (x : BitVec 32) : by8 ((x.toNat : Int) % 256) = lo8 x := by
 unfold by8 lo8
 apply UInt8.toNat_inj.1
 rw [UInt8.toNat_ofNat', UInt8.toNat_ofNat']
 omega
theorem laidS_ref (x : BitVec 32) : [by8 ((x.toNat : Int) % 256), by8 (((x >>> 8).toNat : Int) % 256), by8 (((x >>> 16).toNat : Int) % 256), lo8 (x >>> 24)] = laidS x := by
 rw [by8_lo, by8_lo, by8_lo]; rfl
def sealS (t : List UInt8) : List UInt8 := t ++ laidS (crcS t)
theorem flat_le {l : List (List UInt8)} {x : List UInt8} (hx : x ∈ l) : x.length ≤ l.flatten.length := by
 induction l with
 | nil => cases hx
 | cons a t ih =>
  rw [List.flatten_cons, List.length_append]
  rcases List.mem_cons.1 hx with e | h
  · rw [e]; omega
  · have := ih h; omega
theorem emod_b (a b : Int) (h : 0 < b) : 0 ≤ a % b ∧ a % b < b := ⟨Int.emod_nonneg _ (by omega), Int.emod_lt_of_pos _ h⟩
section ops
variable {P : Program} {ρ : Operand → Value} {E w : World} {ss : List (List Hp)} {K : Value → World → Prop} {dst : Option Tmp} {T : TypeId} {pos : String} {after : Array Edge} {g : Option (Nat × Bool)}
theorem o_compl {t u : TypeId} {x : Operand} {a : BitVec 32} (ht : P.underlying t = some (.int .u32)) (hx : ρ x = .int .u32 (a.toNat : Int)) (h : K (.int .u32 ((~~~ a).toNat : Int)) w) : OK P ⟨dst, .unOp .xor t x, u, pos, after, g⟩ ρ w K := by
 refine OK.val (run_v (v := .int .u32 ((~~~ a).toNat : Int)) ?_) h
 rw [hx]
 simp only [Op.unary, Op.intBits]
 rw [if_neg (show ¬ (IntKind.signed .u32 = true) by decide)]
 simp only [Sem.run_pure]
 have e : IntKind.max .u32 = ((4294967295#32).toNat : Int) := by decide
 rw [e]
 have := xor32 (4294967295#32) a
 rw [show (4294967295#32 ^^^ a) = ~~~ a from by
  apply BitVec.eq_of_getLsbD_eq
  intro i hi
  have : ∀ j, j < 32 → (4294967295#32).getLsbD j = true := by decide
  rw [BitVec.getLsbD_xor, this i hi, BitVec.getLsbD_not, decide_eq_true hi]; cases a.getLsbD i <;> rfl] at this
 exact congrArg (fun n => Result.ok (Value.int .u32 n) w) this
theorem o_idxArr {x y : Operand} {t e : TypeId} {n b off i by_ : Nat} {k : IntKind} {z : Value} (ht : P.underlying t = some (.array n e)) (hi : TI P e z 1 by_) (hx : ρ x = .pointer (some ⟨b, off, none⟩)) (hy : ρ y = .int k (i : Int)) (h : i < n)
  (hK : K (.pointer (some ⟨b, off + i, none⟩)) w) : OK P ⟨dst, .indexAddr t x y, T, pos, after, g⟩ ρ w K := by
 refine OK.val (run_v (v := .pointer (some ⟨b, off + i, none⟩)) ?_) hK
 rw [hx, hy]
 simp [Instr.indexAt, asIntOf, run_underlying ht, h, hi.size, add_lit, Instr.sureAddr]
end ops
end Go.Q
namespace Go.Q
def OwnZ (e : TypeId) (v : Value) (n : Nat) (cs : List Value) (hs : List Hp) : Prop :=
 cs.length = n ∧ ∃ b cap cur, v = .slice (some ⟨b, 0, none⟩) n cap ∧ hs = [Hp.one b (.cells cur e (cur.size, cur.size + 1))] ∧ n ≤ cap ∧ cap ≤ 9223372036854775807 ∧ cur.size = cap ∧ cur.toList.take n = cs
theorem OwnZ.sl {e : TypeId} {v : Value} {n : Nat} {cs : List Value} {hs : List Hp} (H : OwnZ e v n cs hs) : Sl hs 1 v n cs := by
 obtain ⟨hl, b, cap, cur, rfl, rfl, h1, h2, h3, h4⟩ := H
 refine ⟨_, _, rfl, h1, h2, by omega, fun _ => ⟨b, 0, rfl, CellsAt.one ?_⟩⟩
 rw [List.drop_zero, hl]; exact h4
theorem OwnZ.one {e : TypeId} {v : Value} {n : Nat} {cs : List Value} {hs : List Hp} (h : OwnZ e v n cs hs) : v.oneCell' = true := h.sl.one
section ops
variable {P : Program} {ρ : Operand → Value} {E w : World} {ss : List (List Hp)} {K : Value → World → Prop} {dst : Option Tmp} {T : TypeId} {pos : String} {after : Array Edge} {g : Option (Nat × Bool)}
end ops
end Go.Q
namespace Go.Q
def bits8 (b : UInt8) : List Bool := (List.range 8).map b.toNat.testBit
def bitsOf (s : List UInt8) : List Bool := s.flatMap bits8
theorem bits8_len (b : UInt8) : (bits8 b).length = 8 := rfl
theorem bits8_get (b : UInt8) (i : Nat) : (bits8 b)[i]? = if i < 8 then some (b.toNat.testBit i) else none := by
 by_cases h : i < 8
 · rw [if_pos h]; unfold bits8; rw [List.getElem?_map, List.getElem?_range h]; rfl
 · rw [if_neg h]; exact List.getElem?_eq_none (by rw [bits8_len]; omega)
theorem bits_get : ∀ (s : List UInt8) (p : Nat), (bitsOf s)[p]? = (s[p / 8]?).map fun b => b.toNat.testBit (p % 8)
 | [], p => rfl
 | b :: s, p => by
  unfold bitsOf
  rw [List.flatMap_cons]
  by_cases h : p < 8
  · rw [List.getElem?_append_left (by rw [bits8_len]; exact h), bits8_get, if_pos h, Nat.div_eq_of_lt h, Nat.mod_eq_of_lt h]; rfl
  ·
   rw [List.getElem?_append_right (by rw [bits8_len]; omega), bits8_len]
   have := bits_get s (p - 8)
   unfold bitsOf at this
   rw [this, show p / 8 = (p - 8) / 8 + 1 by omega, List.getElem?_cons_succ, show (p - 8) % 8 = p % 8 by omega]
theorem byte_ext {a b : UInt8} (h : ∀ i, i < 8 → a.toNat.testBit i = b.toNat.testBit i) : a = b := by
 apply UInt8.toNat_inj.1
 apply Nat.eq_of_testBit_eq
 intro i
 by_cases hi : i < 8
 · exact h i hi
 ·
  have ha : a.toNat < 2 ^ i := Nat.lt_of_lt_of_le a.toNat_lt (Nat.pow_le_pow_right (by decide) (by omega))
  have hb : b.toNat < 2 ^ i := Nat.lt_of_lt_of_le b.toNat_lt (Nat.pow_le_pow_right (by decide) (by omega))
  rw [Nat.testBit_lt_two_pow ha, Nat.testBit_lt_two_pow hb]
def pow8 (n : Nat) : UInt8 := UInt8.ofNat (2 ^ n)
theorem turn_step {s lc : List UInt8} {a q : Nat} {c : UInt8} (hl : lc.length = s.length) (hw : ∀ p, p < a ∨ a + 32 ≤ p → (bitsOf lc)[p]? = (bitsOf s)[p]?) (hq : a ≤ q ∧ q < a + 32) (hc : lc[q / 8]? = some c) :
  (lc.set (q / 8) (c ^^^ pow8 (q % 8))).length = s.length ∧ ∀ p, p < a ∨ a + 32 ≤ p → (bitsOf (lc.set (q / 8) (c ^^^ pow8 (q % 8))))[p]? = (bitsOf s)[p]? := by
 refine ⟨by rw [List.length_set, hl], fun p hp => ?_⟩
 rw [← hw p hp, bits_get, bits_get]
 by_cases h : p / 8 = q / 8
 ·
  have hlt := (List.getElem?_eq_some_iff.1 hc).1
  rw [h, List.getElem?_set_self hlt, hc, Option.map_some, Option.map_some]
  congr 1
  have hm : p % 8 ≠ q % 8 := by omega
  rw [UInt8.toNat_xor, Nat.testBit_xor]
  have : (pow8 (q % 8)).toNat.testBit (p % 8) = false := by
   unfold pow8
   have h2 : 2 ^ (q % 8) < 256 := Nat.lt_of_le_of_lt (Nat.pow_le_pow_right (by decide) (show q % 8 ≤ 7 by omega)) (by decide)
   rw [UInt8.toNat_ofNat', Nat.mod_eq_of_lt h2, Nat.testBit_two_pow]
   exact decide_eq_false (by omega)
  rw [this, Bool.xor_false]
 · rw [List.getElem?_set_ne (fun e => h e.symm)]
def Win (a : Nat) (t s : List UInt8) : Prop := t.length = s.length ∧ ∀ p, p < a ∨ a + 32 ≤ p → (bitsOf t)[p]? = (bitsOf s)[p]?
theorem Win.refl (a : Nat) (s : List UInt8) : Win a s s := ⟨rfl, fun _ _ => rfl⟩
theorem Win.step {a i : Nat} {t s : List UInt8} {c : UInt8} (h : Win a t s) (hi : i < 32) (hc : t[(((a : Int) + (i : Int)) / 8).toNat]? = some c) :
  Win a (t.set (((a : Int) + (i : Int)) / 8).toNat (c ^^^ pow8 (((a : Int) + (i : Int)) % 8).toNat)) s := by
 have e1 : (((a : Int) + (i : Int)) / 8).toNat = (a + i) / 8 := by omega
 have e2 : (((a : Int) + (i : Int)) % 8).toNat = (a + i) % 8 := by omega
 rw [e1] at hc ⊢
 rw [e2]
 exact turn_step h.1 h.2 (by omega) hc
end Go.Q
namespace Go.Q
theorem two_pow8 (j : Nat) : ((2 : Int) ^ (8 * j)) = ((256 ^ j : Nat) : Int) := by
 induction j with
 | zero => rfl
 | succ j ih => rw [Nat.mul_succ, Int.pow_add, ih, Nat.pow_succ, Int.natCast_mul]; rfl
theorem by8_nat (m : Nat) (j : Nat) : (by8 ((m : Int) / 2 ^ (8 * j))).toNat = m / 256 ^ j % 256 := by
 unfold by8
 rw [UInt8.toNat_ofNat', two_pow8, ← Int.natCast_ediv]
 omega
theorem fold_be (m : Nat) : ∀ (j : Nat) (acc : Int), (beFrom (m : Int) j).foldl (fun n b => n * 256 + (b.toNat : Int)) acc = acc * ((256 ^ j : Nat) : Int) + ((m % 256 ^ j : Nat) : Int)
 | 0, acc => by simp [beFrom, Nat.mod_one]
 | j + 1, acc => by
  rw [show beFrom (m : Int) (j + 1) = by8 ((m : Int) / 2 ^ (8 * j)) :: beFrom (m : Int) j from rfl, List.foldl_cons, fold_be m j, by8_nat, Nat.pow_succ, Nat.mod_mul, Int.add_mul, Int.mul_assoc, Int.natCast_mul, Int.natCast_add, Int.natCast_mul, Int.mul_comm 256, Int.mul_comm ((m / 256 ^ j % 256 : Nat) : Int), show ((256 : Nat) : Int) = 256 from rfl]
  omega
theorem beVal_be (m j : Nat) (h : m < 256 ^ j) : beVal (beFrom (m : Int) j) = m := by
 rw [beVal, fold_be, Nat.mod_eq_of_lt h]; omega
theorem fits_nat {n : Int} {k : Nat} (h : fitsS n k = true) (h1 : 1 ≤ k) (h8 : k ≤ 8) (hn : n ≤ 9223372036854775807) : ∃ m : Nat, n = m ∧ m < 256 ^ k ∧ m ≤ 9223372036854775807 := by
 simp only [fitsS, Bool.and_eq_true, Bool.or_eq_true, decide_eq_true_eq] at h
 obtain ⟨h0, h2⟩ := h
 refine ⟨n.toNat, by omega, ?_, by omega⟩
 rcases h2 with h2 | h2
 ·
  obtain rfl : k = 8 := by omega
  omega
 ·
  rw [show (min (8 * (k : Int)).toNat 64) = 8 * k from by omega, two_pow8, Int.fdiv_eq_ediv_of_nonneg _ (Int.natCast_nonneg _), show n = ((n.toNat : Nat) : Int) from by omega, ← Int.natCast_ediv] at h2
  have h3 : n.toNat / 256 ^ k = 0 := by omega
  exact (Nat.div_eq_zero_iff.1 h3).resolve_left (Nat.pos_iff_ne_zero.1 (Nat.pow_pos (by omega)))
theorem be_first {m : Nat} (h : m ≤ 9223372036854775807) : ∀ c, (beFrom (m : Int) 8)[0]? = some c → c.toNat ≤ 127 := by
 intro c hc
 rw [show beFrom (m : Int) 8 = by8 ((m : Int) / 2 ^ (8 * 7)) :: beFrom (m : Int) 7 from rfl] at hc
 have : c = by8 ((m : Int) / 2 ^ (8 * 7)) := by simpa using hc.symm
 subst this
 rw [by8_nat]
 omega
theorem put_one_fits {n : Int} {k : Nat} (h1 : 1 ≤ k) (h8 : k ≤ 8) (h : fitsS n k = true) : putS k [n] = beFrom n k := by
 rw [putS_yes h1 h8 (by simpa using h)]; simp
theorem put_one_yes {n : Int} {k : Nat} (h1 : 1 ≤ k) (h8 : k ≤ 8) (h : putS k [n] ≠ []) : fitsS n k = true := by
 cases hf : fitsS n k with
 | true => rfl
 | false => exact absurd (putS_no (List.mem_singleton.2 rfl) hf) h
theorem back_law {n : Int} {k : Nat} {more : List UInt8} (h1 : 1 ≤ k) (h8 : k ≤ 8) (hn : n ≤ 9223372036854775807) (h : putS k [n] ≠ []) : takeS (putS k [n] ++ more) k = (n, more, true) := by
 have hf := put_one_yes h1 h8 h
 obtain ⟨m, rfl, hm, hm2⟩ := fits_nat hf h1 h8 hn
 rw [put_one_fits h1 h8 hf, takeS_yes h1 h8 (by rw [List.length_append, zA]; omega) ?_]
 · rw [List.take_left' (zA _ _), List.drop_left' (zA _ _), beVal_be m k hm]
 ·
  rcases Nat.lt_or_ge k 8 with g | g
  · exact .inl (by omega)
  ·
   obtain rfl : k = 8 := by omega
   refine .inr fun c hc => be_first hm2 c ?_
   rw [List.getElem?_append_left (by rw [zA]; omega)] at hc
   exact hc
end Go.Q
namespace Go.Q
end Go.Q
namespace Go.Q
theorem be_zero (n : Nat) (i : Nat) (h : n < 256 ^ i) : ∀ j, beFrom (n : Int) (i + j) = List.replicate j (0 : UInt8) ++ beFrom (n : Int) i
 | 0 => rfl
 | j + 1 => by
  show by8 ((n : Int) / 2 ^ (8 * (i + j))) :: beFrom (n : Int) (i + j) = _
  rw [be_zero n i h j, List.replicate_succ]
  have : by8 ((n : Int) / 2 ^ (8 * (i + j))) = 0 := by
   rw [← UInt8.toNat_inj, by8_nat, Nat.div_eq_of_lt (Nat.lt_of_lt_of_le h (Nat.pow_le_pow_right (by omega) (by omega)))]; rfl
  rw [this]; rfl
theorem set_put {j : Nat} {l : List UInt8} {b : UInt8} (h : 0 < j) : (List.replicate j (0 : UInt8) ++ l).set (j - 1) b = List.replicate (j - 1) 0 ++ b :: l := by
 obtain ⟨i, rfl⟩ : ∃ i, j = i + 1 := ⟨j - 1, by omega⟩
 rw [Nat.add_sub_cancel, List.replicate_succ', List.append_assoc, List.set_append_right _ _ (by simp)]
 simp
theorem by8_mod (y : Int) : by8 (y % 256) = by8 y := by unfold by8; rw [Int.emod_emod_of_dvd _ (by decide)]
theorem fits_iff {n : Nat} {m : Nat} (h8 : m ≤ 8) (hn : (n : Int) ≤ 9223372036854775807) : fitsS (n : Int) m = decide (n < 256 ^ m) := by
 rw [Bool.eq_iff_iff]
 simp only [fitsS, Bool.and_eq_true, Bool.or_eq_true, decide_eq_true_eq]
 rw [show (min (8 * (m : Int)).toNat 64) = 8 * m from by omega, two_pow8, Int.fdiv_eq_ediv_of_nonneg _ (Int.natCast_nonneg _), ← Int.natCast_ediv]
 have hp : 0 < 256 ^ m := Nat.pow_pos (by omega)
 constructor
 ·
  rintro ⟨_, h | h⟩
  ·
   obtain rfl : m = 8 := by omega
   omega
  · exact (Nat.div_eq_zero_iff.1 (by omega : n / 256 ^ m = 0)).resolve_left (by omega)
 · intro h; exact ⟨by omega, .inr (by rw [Nat.div_eq_of_lt h]; rfl)⟩
end Go.Q
namespace Go.Q
theorem refput_set {lc : List UInt8} {n y i : Int} {m j : Nat} (h : lc = List.replicate j 0 ++ beFrom n (m - j)) (h0 : 0 < j) (hj : j ≤ m) (hi : i = (j : Int) - 1) (hy : 0 ≤ n → y = n / ((256 ^ (m - j) : Nat) : Int)) (hn : 0 ≤ n) :
  lc.set i.toNat (by8 (y % 256)) = List.replicate (j - 1) 0 ++ beFrom n (m - (j - 1)) := by
 rw [h, show i.toNat = j - 1 from by omega, set_put h0, by8_mod, hy hn, show m - (j - 1) = (m - j) + 1 from by omega]
 congr 1
 show _ = by8 (n / 2 ^ (8 * (m - j))) :: beFrom n (m - j)
 rw [two_pow8]
theorem refput_div {n y : Int} {m j : Nat} (hy : 0 ≤ n → y = n / ((256 ^ (m - j) : Nat) : Int)) (h0 : 0 < j) (hj : j ≤ m) : 0 ≤ n → y / 256 = n / ((256 ^ (m - (j - 1)) : Nat) : Int) := by
 intro hn
 rw [hy hn, show m - (j - 1) = (m - j) + 1 from by omega, Nat.pow_succ, Int.natCast_mul, Int.ediv_ediv_of_nonneg (Int.natCast_nonneg _)]; rfl
theorem refput_low {n y : Int} {m j : Nat} (hj : j ≤ m) (hy : 0 ≤ n → y = n / ((256 ^ (m - j) : Nat) : Int)) (hn : 0 ≤ n) (h : j = 0 ∨ y ≤ 0) (hy0 : y = 0) : n.toNat < 256 ^ (m - j) := by
 have := hy hn
 rw [hy0, show n = ((n.toNat : Nat) : Int) from by omega, ← Int.natCast_ediv] at this
 exact (Nat.div_eq_zero_iff.1 (by omega : n.toNat / 256 ^ (m - j) = 0)).resolve_left (Nat.pos_iff_ne_zero.1 (Nat.pow_pos (by omega)))
theorem refput_ok {n y : Int} {m j : Nat} (hm : 1 ≤ m ∧ m ≤ 8) (hn : -9223372036854775808 ≤ n ∧ n ≤ 9223372036854775807) (hj : j ≤ m) (hy : 0 ≤ n → y = n / ((256 ^ (m - j) : Nat) : Int)) (hneg : n < 0 → j = m ∧ y = n) (h : j = 0 ∨ y ≤ 0) : decide (y = 0) = fitsS n m := by
 rcases (by omega : n < 0 ∨ 0 ≤ n) with g | g
 ·
  rw [decide_eq_false (by have := hneg g; omega)]
  simp only [fitsS]
  rw [decide_eq_false (by omega)]; rfl
 ·
  have e : n = ((n.toNat : Nat) : Int) := by omega
  rw [e, fits_iff hm.2 (by omega)]
  have hyn : 0 ≤ y := by rw [hy g]; exact Int.ediv_nonneg g (Int.natCast_nonneg _)
  have hy' := hy g
  rw [e, ← Int.natCast_ediv] at hy'
  by_cases hy0 : y = 0
  ·
   have := refput_low hj hy g h hy0
   rw [decide_eq_true hy0, decide_eq_true (Nat.lt_of_lt_of_le this (Nat.pow_le_pow_right (by omega) (by omega)))]
  ·
   have hj0 : j = 0 := by omega
   subst hj0
   rw [decide_eq_false hy0, decide_eq_false]
   intro hl
   rw [Nat.sub_zero, Nat.div_eq_of_lt hl] at hy'
   exact hy0 hy'
theorem refput_be {n y : Int} {m j : Nat} {lc : List UInt8} (hm : 1 ≤ m ∧ m ≤ 8) (hn : -9223372036854775808 ≤ n ∧ n ≤ 9223372036854775807) (hj : j ≤ m) (hlc : lc = List.replicate j 0 ++ beFrom n (m - j)) (hy : 0 ≤ n → y = n / ((256 ^ (m - j) : Nat) : Int)) (hneg : n < 0 → j = m ∧ y = n) (h : j = 0 ∨ y ≤ 0) :
  fitsS n m = true → lc = beFrom n m := by
 intro hf
 rw [← refput_ok hm hn hj hy hneg h, decide_eq_true_eq] at hf
 rcases (by omega : n < 0 ∨ 0 ≤ n) with g | g
 · have := hneg g; omega
 ·
  have hl := refput_low hj hy g h hf
  have := be_zero n.toNat (m - j) hl j
  rw [show ((n.toNat : Nat) : Int) = n from by omega, show m - j + j = m from by omega] at this
  rw [hlc, this]
end Go.Q
namespace Go.Q
end Go.Q
namespace Go.Q
section
variable {P : Program} {E w : World} {ss : List (List Hp)} {N : Nat} {r : Nat → Value}
theorem zu {t : TypeId} {d : TypeDesc} {L : List Hp} {b off : Nat} {cs : List Value} {z : Value} {by_ : Nat} (ht : P.underlying t = some d) (hd : aggB d = true)
  (hi : TI P t z cs.length by_) (H : Has E w ss) (hL : L ⊆ ss.flatten) (hc : CellsAt L b off cs) : (loadVar t ⟨b, off, none⟩).run P w = .ok (.agg cs.toArray) w := by
 simp only [Sem.run_bind, Sem.run_pure, Result.andThen_ok, loadVar, run_isAgg ht, hd, if_true, hi.size]
 rw [run_loadCells_list (P := P) (w := w) ⟨b, off, none⟩ cs (fun j v hv => by rw [add_lit]; exact H.cell hL hc hv)]
 rfl
theorem c_retC1 {fn : Func} {R : Ending → World → Prop} {t : Tmp} {T : TypeId} {a : Addr} {v : Value} (hr : fn.results = #[.cell t T]) (hv : ev N r (.tmp t) = .pointer (some a)) (hl : (loadVar T a).run P w = .ok v w) (hR : R (.returned v) w) :
  bodyPost P fn R .ret (Go.Q.fr N r) w := by
 refine bodyPost_ret (v := v) ?_ rfl hR
 have e : ∀ t, (Go.Q.fr N r).tmps[t]?.getD undef = ev N r (.tmp t) := fun t => by rw [← getD_fr, Array.getD_eq_getD_getElem?]
 simp [results, hr, e, hv, asAddr, hl]
theorem zR {fn : Func} {R : Ending → World → Prop} {t u : Tmp} {T : TypeId} {a : Addr} {v x : Value} (hr : fn.results = #[.cell t T, .tmp u]) (hv : ev N r (.tmp t) = .pointer (some a)) (hl : (loadVar T a).run P w = .ok v w) (hx : ev N r (.tmp u) = x)
  (hR : R (.returned (.tuple #[v, x])) w) : bodyPost P fn R .ret (Go.Q.fr N r) w := by
 refine bodyPost_ret (v := .tuple #[v, x]) ?_ rfl hR
 have e : ∀ t, (Go.Q.fr N r).tmps[t]?.getD undef = ev N r (.tmp t) := fun t => by rw [← getD_fr, Array.getD_eq_getD_getElem?]
 simp [results, hr, e, hv, asAddr, hl, hx]
theorem c_retC3 {fn : Func} {R : Ending → World → Prop} {t u s : Tmp} {T : TypeId} {a : Addr} {v x y : Value} (hr : fn.results = #[.cell t T, .tmp u, .tmp s]) (hv : ev N r (.tmp t) = .pointer (some a)) (hl : (loadVar T a).run P w = .ok v w) (hx : ev N r (.tmp u) = x) (hy : ev N r (.tmp s) = y)
  (hR : R (.returned (.tuple #[v, x, y])) w) : bodyPost P fn R .ret (Go.Q.fr N r) w := by
 refine bodyPost_ret (v := .tuple #[v, x, y]) ?_ rfl hR
 have e : ∀ t, (Go.Q.fr N r).tmps[t]?.getD undef = ev N r (.tmp t) := fun t => by rw [← getD_fr, Array.getD_eq_getD_getElem?]
 simp [results, hr, e, hv, asAddr, hl, hx, hy]
end
end Go.Q
namespace Go.Q
structure Fr where
 ep : Int
 pl : Int
 gsn : Int
 data : List UInt8
def frC (f : Fr) : List Value := [iV f.ep, iV f.pl, iV f.gsn, S f.data]
theorem frC_len (f : Fr) : (frC f).length = 4 := rfl
theorem one_fr (l : List Fr) : ∀ u ∈ l.flatMap frC, u.oneCell' = true := one_flat (fun f u hu => by
 simp only [frC, List.mem_cons, List.not_mem_nil, or_false] at hu
 rcases hu with rfl | rfl | rfl | rfl <;> rfl) l
def rightS (f : Fr) : Bool := decide (0 ≤ f.ep ∧ f.ep ≤ 2147483647 ∧ 0 ≤ f.pl ∧ f.pl ≤ 4611686018427387903 ∧ 0 ≤ f.gsn ∧ f.gsn ≤ 4611686018427387903 ∧ f.data.length ≤ 200)
theorem rightS_of {f : Fr} (h : rightS f = true) : 0 ≤ f.ep ∧ f.ep ≤ 2147483647 ∧ 0 ≤ f.pl ∧ f.pl ≤ 4611686018427387903 ∧ 0 ≤ f.gsn ∧ f.gsn ≤ 4611686018427387903 ∧ f.data.length ≤ 200 := of_decide_eq_true h
def headS (f : Fr) : List UInt8 := beFrom (f.data.length : Int) 1 ++ (beFrom f.ep 4 ++ (beFrom f.pl 8 ++ beFrom f.gsn 8))
theorem headS_len (f : Fr) : (headS f).length = 21 := by simp only [headS, List.length_append, zA]
def makeS (f : Fr) : List UInt8 := if rightS f = true then sealS (headS f ++ f.data) else []
theorem makeS_yes {f : Fr} (h : rightS f = true) : makeS f = sealS (headS f ++ f.data) := by rw [makeS, if_pos h]
theorem makeS_no {f : Fr} (h : rightS f = false) : makeS f = [] := by rw [makeS, if_neg (by rw [h]; decide)]
theorem makeS_len {f : Fr} (h : rightS f = true) : (makeS f).length = f.data.length + 25 := by
 rw [makeS_yes h, sealS, List.length_append, List.length_append, headS_len, ye]; omega
theorem yf {n : Int} {m : Nat} {b : Nat} (h0 : 0 ≤ n) (h1 : n < (b : Int)) (h8 : m ≤ 8) (hb : b ≤ 256 ^ m) (h63 : n ≤ 9223372036854775807) : fitsS n m = true := by
 obtain ⟨k, rfl⟩ : ∃ k : Nat, n = k := ⟨n.toNat, by omega⟩
 rw [fits_iff h8 h63]
 exact decide_eq_true (by omega)
theorem put_flat {f : Fr} (h : rightS f = true) : [putS 1 [((f.data.length : Nat) : Int)], putS 4 [f.ep], putS 8 [f.pl, f.gsn], f.data].flatten = headS f ++ f.data := by
 obtain ⟨h1, h2, h3, h4, h5, h6, h7⟩ := rightS_of h
 have f1 : fitsS ((f.data.length : Nat) : Int) 1 = true := yf (b := 256) (by omega) (by omega) (by decide) (by decide) (by omega)
 have f2 : fitsS f.ep 4 = true := yf (b := 2147483648) h1 (by omega) (by decide) (by decide) (by omega)
 have f3 : fitsS f.pl 8 = true := yf (b := 4611686018427387904) h3 (by omega) (by decide) (by decide) (by omega)
 have f4 : fitsS f.gsn 8 = true := yf (b := 4611686018427387904) h5 (by omega) (by decide) (by decide) (by omega)
 rw [putS_yes (by decide) (by decide) (by simpa using f1), putS_yes (by decide) (by decide) (by simpa using f2), putS_yes (by decide) (by decide) (by simpa using ⟨f3, f4⟩)]
 simp [headS]
theorem fits_head {f : Fr} (h : rightS f = true) : fitsS ((f.data.length : Nat) : Int) 1 = true ∧ fitsS f.ep 4 = true ∧ fitsS f.pl 8 = true ∧ fitsS f.gsn 8 = true := by
 obtain ⟨h1, h2, h3, h4, h5, h6, h7⟩ := rightS_of h
 exact ⟨yf (b := 256) (by omega) (by omega) (by decide) (by decide) (by omega), yf (b := 2147483648) h1 (by omega) (by decide) (by decide) (by omega),
  yf (b := 4611686018427387904) h3 (by omega) (by decide) (by decide) (by omega), yf (b := 4611686018427387904) h5 (by omega) (by decide) (by decide) (by omega)⟩
end Go.Q
namespace Go.Q
theorem take_be {n : Int} {k : Nat} {more : List UInt8} (h1 : 1 ≤ k) (h8 : k ≤ 8) (hn : n ≤ 9223372036854775807) (h : fitsS n k = true) : takeS (beFrom n k ++ more) k = (n, more, true) := by
 have e := put_one_fits h1 h8 h
 have hne : putS k [n] ≠ [] := fun g => by
  have := zA n k
  rw [← e, g] at this
  simp at this; omega
 have := back_law (more := more) h1 h8 hn hne
 rwa [e] at this
theorem take_rest_le (s : List UInt8) (m : Nat) : (takeS s m).2.1.length ≤ s.length := by
 unfold takeS
 split
 · simp only [List.length_drop]; omega
 · exact Nat.le_refl _
theorem beVal_one (c : UInt8) : beVal [c] = (c.toNat : Int) := by simp [beVal]
theorem take_one (s : List UInt8) : 0 ≤ (takeS s 1).1 ∧ (takeS s 1).1 ≤ 255 := by
 cases s with
 | nil => unfold takeS; rw [if_neg (by simp)]; simp
 | cons c t =>
  rw [takeS_yes (by decide) (by decide) (by simp) (.inl (by decide))]
  have := c.toNat_lt
  show 0 ≤ beVal [c] ∧ beVal [c] ≤ 255
  rw [beVal_one]; omega
def fO (s : List UInt8) : Fr := ⟨(takeS (takeS s 1).2.1 4).1, (takeS (takeS (takeS s 1).2.1 4).2.1 8).1, (takeS (takeS (takeS (takeS s 1).2.1 4).2.1 8).2.1 8).1, (s.take (21 + (takeS s 1).1).toNat).drop 21⟩
def opensB (s : List UInt8) : Bool := (takeS s 1).2.2 && decide ((takeS s 1).1 + 25 ≤ (s.length : Int)) && rightS (fO s) && decide (makeS (fO s) = s.take ((takeS s 1).1 + 25).toNat)
def oF (s : List UInt8) : Fr := if opensB s = true then fO s else ⟨0, 0, 0, []⟩
def oN (s : List UInt8) : Int := if opensB s = true then (takeS s 1).1 + 25 else 0
theorem made_flat {f : Fr} (h : rightS f = true) (more : List UInt8) :
  makeS f ++ more = beFrom ((f.data.length : Nat) : Int) 1 ++ (beFrom f.ep 4 ++ (beFrom f.pl 8 ++ (beFrom f.gsn 8 ++ (f.data ++ (laidS (crcS (headS f ++ f.data)) ++ more))))) := by
 rw [makeS_yes h, sealS]; simp [headS]
theorem made_takes {f : Fr} (h : rightS f = true) (more : List UInt8) : (takeS (makeS f ++ more) 1) = (((f.data.length : Nat) : Int), beFrom f.ep 4 ++ (beFrom f.pl 8 ++ (beFrom f.gsn 8 ++ (f.data ++ (laidS (crcS (headS f ++ f.data)) ++ more)))), true) ∧ fO (makeS f ++ more) = f := by
 obtain ⟨h1, h2, h3, h4⟩ := fits_head h
 obtain ⟨r1, r2, r3, r4, r5, r6, r7⟩ := rightS_of h
 have e1 := take_be (more := beFrom f.ep 4 ++ (beFrom f.pl 8 ++ (beFrom f.gsn 8 ++ (f.data ++ (laidS (crcS (headS f ++ f.data)) ++ more))))) (by decide) (by decide) (by omega) h1
 have e2 := take_be (more := beFrom f.pl 8 ++ (beFrom f.gsn 8 ++ (f.data ++ (laidS (crcS (headS f ++ f.data)) ++ more)))) (by decide) (by decide) (by omega) h2
 have e3 := take_be (more := beFrom f.gsn 8 ++ (f.data ++ (laidS (crcS (headS f ++ f.data)) ++ more))) (by decide) (by decide) (by omega) h3
 have e4 := take_be (more := f.data ++ (laidS (crcS (headS f ++ f.data)) ++ more)) (by decide) (by decide) (by omega) h4
 have hf := made_flat h more
 refine ⟨by rw [hf]; exact e1, ?_⟩
 have hd : ((makeS f ++ more).take (21 + ((f.data.length : Nat) : Int)).toNat).drop 21 = f.data := by
  rw [makeS_yes h, sealS, show (21 + ((f.data.length : Nat) : Int)).toNat = 21 + f.data.length by omega]
  have hl : (headS f ++ f.data).length = 21 + f.data.length := by rw [List.length_append, headS_len]
  rw [← hl, List.append_assoc, List.take_left, ← headS_len f, List.drop_left]
 have e1' := e1
 rw [← hf] at e1'
 unfold fO
 rw [e1']
 simp only [e2, e3, e4, hd]
theorem made_opens {f : Fr} (h : rightS f = true) (more : List UInt8) : opensB (makeS f ++ more) = true := by
 obtain ⟨h1, h2⟩ := made_takes h more
 have hl := makeS_len h
 unfold opensB
 rw [h2, h1, h, Bool.true_and, Bool.and_true, Bool.and_eq_true]
 refine ⟨decide_eq_true (by simp only [List.length_append]; omega), decide_eq_true ?_⟩
 rw [show (((f.data.length : Nat) : Int) + 25).toNat = (makeS f).length by omega, List.take_left]
theorem made_oF {f : Fr} (h : rightS f = true) (more : List UInt8) : oF (makeS f ++ more) = f ∧ oN (makeS f ++ more) = ((f.data.length : Nat) : Int) + 25 := by
 unfold oF oN
 rw [if_pos (made_opens h more), if_pos (made_opens h more), (made_takes h more).1, (made_takes h more).2]
 exact ⟨rfl, rfl⟩
theorem opens_made {s : List UInt8} (h : opensB s = true) : rightS (fO s) = true ∧ ((fO s).data.length : Int) = (takeS s 1).1 ∧ s = makeS (fO s) ++ s.drop ((takeS s 1).1 + 25).toNat ∧ (takeS s 1).1 + 25 ≤ (s.length : Int) := by
 unfold opensB at h
 rw [Bool.and_eq_true, Bool.and_eq_true, Bool.and_eq_true] at h
 obtain ⟨⟨⟨h1, h2⟩, h3⟩, h4⟩ := h
 have h2 := of_decide_eq_true h2
 have h4 := of_decide_eq_true h4
 have h0 := take_one s
 refine ⟨h3, ?_, by rw [h4, List.take_append_drop], h2⟩
 show ((((s.take (21 + (takeS s 1).1).toNat).drop 21).length : Nat) : Int) = _
 rw [List.length_drop, List.length_take]; omega
theorem opens_iff {s : List UInt8} : opensB s = true ↔ ∃ f more, rightS f = true ∧ s = makeS f ++ more := by
 constructor
 · intro h; obtain ⟨h1, _, h3, _⟩ := opens_made h; exact ⟨_, _, h1, h3⟩
 · rintro ⟨f, more, h, rfl⟩; exact made_opens h more
def fR (s : List UInt8) (c : UInt8) : Fr := ⟨(takeS (s.drop 1) 4).1, (takeS (s.drop 5) 8).1, (takeS (s.drop 13) 8).1, (s.take (21 + (c.toNat : Int)).toNat).drop 21⟩
theorem drop_be (a b c : List UInt8) (n : Nat) (h : a.length = n) : (a ++ b).drop n = b := by rw [← h, List.drop_left]
theorem ref_opens {s : List UInt8} {c : UInt8} (hc : s[0]? = some c) (h25 : 25 ≤ s.length) (hl : 25 + (c.toNat : Int) ≤ (s.length : Int)) :
  opensB s = ((takeS (s.drop 5) 8).2.2 && (takeS (s.drop 13) 8).2.2 && rightS (fR s c) && decide (makeS (fR s c) = s.take (25 + ((fR s c).data.length : Int)).toNat)) ∧
  (opensB s = true → fO s = fR s c ∧ (takeS s 1).1 = (c.toNat : Int)) := by
 have key : opensB s = true → (takeS (s.drop 5) 8).2.2 = true ∧ (takeS (s.drop 13) 8).2.2 = true ∧ fO s = fR s c ∧ (takeS s 1).1 = (c.toNat : Int) := by
  intro h
  obtain ⟨f, more, hr, rfl⟩ := opens_iff.1 h
  obtain ⟨h1, h2, h3, h4⟩ := fits_head hr
  obtain ⟨r1, r2, r3, r4, r5, r6, r7⟩ := rightS_of hr
  have hf := made_flat hr more
  have d1 : (makeS f ++ more).drop 1 = beFrom f.ep 4 ++ (beFrom f.pl 8 ++ (beFrom f.gsn 8 ++ (f.data ++ (laidS (crcS (headS f ++ f.data)) ++ more)))) := by rw [hf]; exact drop_be _ _ [] 1 (zA _ _)
  have d5 : (makeS f ++ more).drop 5 = beFrom f.pl 8 ++ (beFrom f.gsn 8 ++ (f.data ++ (laidS (crcS (headS f ++ f.data)) ++ more))) := by
   rw [show (5 : Nat) = 1 + 4 from rfl, ← List.drop_drop, d1]; exact drop_be _ _ [] 4 (zA _ _)
  have d13 : (makeS f ++ more).drop 13 = beFrom f.gsn 8 ++ (f.data ++ (laidS (crcS (headS f ++ f.data)) ++ more)) := by
   rw [show (13 : Nat) = 5 + 8 from rfl, ← List.drop_drop, d5]; exact drop_be _ _ [] 8 (zA _ _)
  have e2 := take_be (more := beFrom f.pl 8 ++ (beFrom f.gsn 8 ++ (f.data ++ (laidS (crcS (headS f ++ f.data)) ++ more)))) (by decide) (by decide) (by omega) h2
  have e3 := take_be (more := beFrom f.gsn 8 ++ (f.data ++ (laidS (crcS (headS f ++ f.data)) ++ more))) (by decide) (by decide) (by omega) h3
  have e4 := take_be (more := f.data ++ (laidS (crcS (headS f ++ f.data)) ++ more)) (by decide) (by decide) (by omega) h4
  obtain ⟨m1, m2⟩ := made_takes hr more
  have hc2 : ((f.data.length : Nat) : Int) = (c.toNat : Int) := by
   have b1 : (makeS f ++ more).take 1 = beFrom ((f.data.length : Nat) : Int) 1 := by rw [hf]; exact List.take_left' (zA _ _)
   have b2 : (makeS f ++ more).take 1 = [c] := by
    cases hm : (makeS f ++ more) with
    | nil => rw [hm] at hc; simp at hc
    | cons x t => rw [hm] at hc; simp at hc; rw [hc]; rfl
   have b3 := take_be (more := []) (by decide : 1 ≤ 1) (by decide) (by omega) h1
   rw [← b1, b2, List.append_nil, takeS_yes (by decide) (by decide) (by simp) (.inl (by decide))] at b3
   have b4 := congrArg (fun x => x.1) b3
   simp only [List.take] at b4
   rw [beVal_one] at b4
   exact b4.symm
  refine ⟨by rw [d5, e3], by rw [d13, e4], ?_, by rw [m1]; exact hc2⟩
  rw [m2]
  unfold fR
  rw [d1, d5, d13, e2, e3, e4, ← hc2]
  have := congrArg Fr.data m2
  unfold fO at this
  rw [m1] at this
  simp only at this
  rw [this]
 have dl : ((fR s c).data.length : Int) = (c.toNat : Int) := by
  show ((((s.take (21 + (c.toNat : Int)).toNat).drop 21).length : Nat) : Int) = _
  rw [List.length_drop, List.length_take]; omega
 refine ⟨?_, fun h => ⟨(key h).2.2.1, (key h).2.2.2⟩⟩
 apply Bool.eq_iff_iff.2
 rw [Bool.and_eq_true, Bool.and_eq_true, Bool.and_eq_true]
 constructor
 ·
  intro h
  obtain ⟨k1, k2, k3, k4⟩ := key h
  obtain ⟨o1, o2, o3, o4⟩ := opens_made h
  refine ⟨⟨⟨k1, k2⟩, by rw [← k3]; exact o1⟩, decide_eq_true ?_⟩
  rw [dl, ← k3]
  have h' := h
  unfold opensB at h'
  rw [Bool.and_eq_true, Bool.and_eq_true, Bool.and_eq_true] at h'
  have h4 := of_decide_eq_true h'.2
  rw [h4, k4, Int.add_comm]
 ·
  rintro ⟨⟨⟨k1, k2⟩, k3⟩, k4⟩
  have k4 := of_decide_eq_true k4
  exact opens_iff.2 ⟨fR s c, s.drop (25 + ((fR s c).data.length : Int)).toNat, k3, by rw [k4, List.take_append_drop]⟩
theorem ref_yes {s : List UInt8} {c : UInt8} (hc : s[0]? = some c) (h25 : 25 ≤ s.length) (hl : 25 + (c.toNat : Int) ≤ (s.length : Int)) (k1 : (takeS (s.drop 5) 8).2.2 = true) (k2 : (takeS (s.drop 13) 8).2.2 = true) (k3 : rightS (fR s c) = true)
  (k4 : makeS (fR s c) = s.take (25 + ((fR s c).data.length : Int)).toNat) : opensB s = true := by rw [(ref_opens hc h25 hl).1, k1, k2, k3, decide_eq_true k4]; rfl
theorem ref_no {s : List UInt8} {c : UInt8} (hc : s[0]? = some c) (h25 : 25 ≤ s.length) (hl : 25 + (c.toNat : Int) ≤ (s.length : Int)) (h : (takeS (s.drop 5) 8).2.2 = false ∨ (takeS (s.drop 13) 8).2.2 = false ∨ rightS (fR s c) = false ∨
  makeS (fR s c) ≠ s.take (25 + ((fR s c).data.length : Int)).toNat) : opensB s = false := by
 rw [(ref_opens hc h25 hl).1]
 rcases h with h | h | h | h
 · rw [h]; simp
 · rw [h]; simp
 · rw [h]; simp
 · rw [decide_eq_false h]; simp
theorem oN_yes {s : List UInt8} (h : opensB s = true) : oN s = 25 + ((oF s).data.length : Int) := by
 unfold oF oN; rw [if_pos h, if_pos h, (opens_made h).2.1, Int.add_comm]
theorem oF_le (s : List UInt8) : (oF s).data.length ≤ s.length := by
 unfold oF
 split
 ·
  show ((s.take (21 + (takeS s 1).1).toNat).drop 21).length ≤ s.length
  rw [List.length_drop, List.length_take]; omega
 · exact Nat.zero_le _
theorem not_t {b : Bool} (h : (!b) = true) : b = false := by cases b <;> simp_all
theorem not_f {b : Bool} (h : (!b) = false) : b = true := by cases b <;> simp_all
theorem opens_yes {s : List UInt8} (h1 : (takeS s 1).2.2 = true) (h2 : (takeS s 1).1 + 25 ≤ (s.length : Int)) (h3 : rightS (fO s) = true) (h4 : makeS (fO s) = s.take ((takeS s 1).1 + 25).toNat) : opensB s = true := by
 unfold opensB; rw [h1, h3, decide_eq_true h2, decide_eq_true h4]; rfl
theorem opens_no1 {s : List UInt8} (h : (takeS s 1).2.2 = false) : opensB s = false := by unfold opensB; rw [h]; rfl
theorem opens_no2 {s : List UInt8} (h : (s.length : Int) < (takeS s 1).1 + 25) : opensB s = false := by
 unfold opensB; rw [decide_eq_false (show ¬ (takeS s 1).1 + 25 ≤ (s.length : Int) by omega)]; simp
theorem opens_no3 {s : List UInt8} (h : rightS (fO s) = false) : opensB s = false := by unfold opensB; rw [h]; simp
theorem opens_no4 {s : List UInt8} (h : makeS (fO s) ≠ s.take ((takeS s 1).1 + 25).toNat) : opensB s = false := by unfold opensB; rw [decide_eq_false h]; simp
theorem opens_short {s : List UInt8} (h : s.length < 25) : opensB s = false := opens_no2 (by have := take_one s; omega)
theorem take_one_at {s : List UInt8} {c : UInt8} (hc : s[0]? = some c) : (takeS s 1).1 = (c.toNat : Int) := by
 cases s with
 | nil => simp at hc
 | cons x t =>
  have e : x = c := by simpa using hc
  subst e
  rw [takeS_yes (by decide) (by decide) (by simp) (.inl (by decide))]
  exact beVal_one x
theorem opens_short2 {s : List UInt8} {c : UInt8} (hc : s[0]? = some c) (h : (s.length : Int) < 25 + (c.toNat : Int)) : opensB s = false := opens_no2 (by rw [take_one_at hc]; omega)
theorem rest_le1 {s : List UInt8} (h : s.length ≤ 9000000000000000000) : (takeS s 1).2.1.length ≤ 9223372036854775807 := by have := take_rest_le s 1; omega
theorem rest_le2 {s : List UInt8} (h : s.length ≤ 9000000000000000000) : (takeS (takeS s 1).2.1 4).2.1.length ≤ 9223372036854775807 := by have := take_rest_le s 1; have := take_rest_le (takeS s 1).2.1 4; omega
theorem rest_le3 {s : List UInt8} (h : s.length ≤ 9000000000000000000) : (takeS (takeS (takeS s 1).2.1 4).2.1 8).2.1.length ≤ 9223372036854775807 := by
 have := take_rest_le s 1; have := take_rest_le (takeS s 1).2.1 4; have := take_rest_le (takeS (takeS s 1).2.1 4).2.1 8; omega
end Go.Q
namespace Go.Q
theorem be1 (n : Int) : beFrom n 1 = [by8 n] := by simp [beFrom]
theorem put1 {x : Int} (h : 0 ≤ x ∧ x ≤ 255) : putS 1 [x] = beFrom x 1 := by
 rw [putS_yes (by decide) (by decide) (fun y hy => by rw [List.mem_singleton.1 hy]; exact yf (b := 256) h.1 (by omega) (by decide) (by decide) (by omega))]; simp
def shortB (s : Bs) : Bs := beFrom (s.length : Int) 1 ++ s
theorem shortB_len (s : Bs) : (shortB s).length = s.length + 1 := by unfold shortB; rw [List.length_append, zA]; omega
def cellB (c : Cel) : Bs := shortB c.1 ++ shortB c.2
def headB (no gsn : Int) (n : Nat) : Bs := beFrom no 1 ++ beFrom gsn 8 ++ beFrom (n : Int) 1
theorem headB_len (no gsn : Int) (n : Nat) : (headB no gsn n).length = 10 := by unfold headB; simp [zA]
def bodyB (no gsn : Int) (l : List Cel) : Bs := headB no gsn l.length ++ l.flatMap cellB
def fullB (no gsn : Int) (l : List Cel) : Bs := bodyB no gsn l ++ List.replicate (252 - (bodyB no gsn l).length) 0
def laidP (no gsn : Int) (l : List Cel) : Bs := if pageR no gsn l = true then sealS (fullB no gsn l) else []
theorem celOk_len {c : Cel} (h : celOk c = true) : c.1.length ≤ 8 ∧ c.2.length ≤ 16 := by
 unfold celOk keyR valR at h
 simp only [Bool.and_eq_true, decide_eq_true_eq] at h
 omega
theorem cellB_len {c : Cel} (h : celOk c = true) : (cellB c).length ≤ 26 := by
 have := celOk_len h
 unfold cellB; rw [List.length_append, shortB_len, shortB_len]; omega
theorem cells_len : ∀ {l : List Cel}, (∀ c ∈ l, celOk c = true) → (l.flatMap cellB).length ≤ 26 * l.length
 | [], _ => by simp
 | c :: t, h => by
  have h1 := cellB_len (h c (List.mem_cons_self ..))
  have h2 := cells_len fun a ha => h a (List.mem_cons_of_mem c ha)
  rw [List.flatMap_cons, List.length_append, List.length_cons]; omega
theorem bodyB_len {no gsn : Int} {l : List Cel} (h : pageR no gsn l = true) : (bodyB no gsn l).length ≤ 218 := by
 have h1 := cellsR_iff.1 (pageR_iff.1 h).2
 have h2 := cells_len h1.1
 unfold bodyB; rw [List.length_append, headB_len]; omega
theorem fullB_len {no gsn : Int} {l : List Cel} (h : pageR no gsn l = true) : (fullB no gsn l).length = 252 := by
 have := bodyB_len h
 unfold fullB; rw [List.length_append, List.length_replicate]; omega
theorem laidP_len {no gsn : Int} {l : List Cel} (h : pageR no gsn l = true) : (laidP no gsn l).length = 256 := by
 unfold laidP; rw [if_pos h, sealS, List.length_append, ye, fullB_len h]
theorem laidP_no {no gsn : Int} {l : List Cel} (h : pageR no gsn l = false) : laidP no gsn l = [] := by
 unfold laidP; rw [if_neg (by rw [h]; decide)]
def textS (s : Bs) : Bs × Bs × Bool := if (takeS s 1).2.2 = true ∧ (takeS s 1).1 ≤ ((takeS s 1).2.1.length : Int) then ((takeS s 1).2.1.take (takeS s 1).1.toNat, (takeS s 1).2.1.drop (takeS s 1).1.toNat, true) else ([], [], false)
theorem textS_short {k more : Bs} (h : k.length ≤ 255) : textS (shortB k ++ more) = (k, more, true) := by
 unfold textS shortB
 rw [List.append_assoc, take_be (by decide) (by decide) (by omega) (yf (b := 256) (by omega) (by omega) (by decide) (by decide) (by omega))]
 rw [if_pos ⟨rfl, by simp only [List.length_append]; omega⟩]
 simp
def goP : Nat → Int → Bs → List Cel → Bool × List Cel
 | 0, _, _, acc => (true, acc)
 | f + 1, n, rest, acc => if 0 < n then
   (if (textS rest).2.2 = true then
    (if (textS (textS rest).2.1).2.2 = true then goP f (n - 1) (textS (textS rest).2.1).2.1 (acc ++ [((textS rest).1, (textS (textS rest).2.1).1)])
     else (false, acc ++ [((textS rest).1, (textS (textS rest).2.1).1)]))
    else (false, acc ++ [((textS rest).1, [])]))
  else (true, acc)
theorem goP_laid : ∀ (l : List Cel) (f : Nat) (more : Bs) (acc : List Cel), (∀ c ∈ l, celOk c = true) → l.length ≤ f → goP f (l.length : Int) (l.flatMap cellB ++ more) acc = (true, acc ++ l)
 | [], 0, _, _, _, _ => by simp [goP]
 | [], f + 1, _, _, _, _ => by rw [goP, if_neg (by simp)]; simp
 | c :: t, 0, _, _, _, h => by simp at h
 | c :: t, f + 1, more, acc, hc, hf => by
  have h1 := celOk_len (hc c (List.mem_cons_self ..))
  have e : (c :: t).flatMap cellB ++ more = shortB c.1 ++ (shortB c.2 ++ (t.flatMap cellB ++ more)) := by
   rw [List.flatMap_cons, cellB]; simp only [List.append_assoc]
  rw [goP, if_pos (by simp only [List.length_cons]; omega), e, textS_short (by omega)]
  simp only
  rw [textS_short (by omega)]
  simp only [if_true]
  rw [show (((c :: t).length : Nat) : Int) - 1 = (t.length : Int) by simp only [List.length_cons]; omega, goP_laid t f more _ (fun a ha => hc a (List.mem_cons_of_mem c ha)) (by simpa using hf)]
  simp
def goP0 (s : Bs) : Bool × List Cel := if (takeS (takeS s 1).2.1 8).2.2 = true then goP 8 (takeS (takeS (takeS s 1).2.1 8).2.1 1).1 (takeS (takeS (takeS s 1).2.1 8).2.1 1).2.1 [] else (false, [])
def readP (s : Bs) : Bool × Int × Int × List Cel :=
 if s.length = 256 ∧ (goP0 s).1 = true ∧ laidP (takeS s 1).1 (takeS (takeS s 1).2.1 8).1 (goP0 s).2 = s then (true, (takeS s 1).1, (takeS (takeS s 1).2.1 8).1, (goP0 s).2) else (false, 0, 0, [])
theorem laid_takes {no gsn : Int} {l : List Cel} (h : pageR no gsn l = true) : ∃ tail : Bs, laidP no gsn l = beFrom no 1 ++ (beFrom gsn 8 ++ (beFrom (l.length : Int) 1 ++ (l.flatMap cellB ++ tail))) := by
 refine ⟨List.replicate (252 - (bodyB no gsn l).length) 0 ++ laidS (crcS (fullB no gsn l)), ?_⟩
 unfold laidP
 rw [if_pos h, sealS]
 have e : fullB no gsn l = beFrom no 1 ++ (beFrom gsn 8 ++ (beFrom (l.length : Int) 1 ++ (l.flatMap cellB ++ List.replicate (252 - (bodyB no gsn l).length) 0))) := by
  have e2 : bodyB no gsn l = beFrom no 1 ++ (beFrom gsn 8 ++ (beFrom (l.length : Int) 1 ++ l.flatMap cellB)) := by unfold bodyB headB; simp only [List.append_assoc]
  have e3 : fullB no gsn l = bodyB no gsn l ++ List.replicate (252 - (bodyB no gsn l).length) 0 := rfl
  rw [e3]
  generalize List.replicate (252 - (bodyB no gsn l).length) (0 : UInt8) = z
  rw [e2]; simp only [List.append_assoc]
 generalize laidS (crcS (fullB no gsn l)) = y
 rw [e]
 simp only [List.append_assoc]
theorem readP_laid {no gsn : Int} {l : List Cel} (h : pageR no gsn l = true) : readP (laidP no gsn l) = (true, no, gsn, l) := by
 obtain ⟨tail, ht⟩ := laid_takes h
 have hp := pageR_iff.1 h
 have hc := cellsR_iff.1 hp.2
 have t1 : takeS (laidP no gsn l) 1 = (no, beFrom gsn 8 ++ (beFrom (l.length : Int) 1 ++ (l.flatMap cellB ++ tail)), true) := by
  rw [ht]; exact take_be (by decide) (by decide) (by omega) (yf (b := 256) (by omega) (by omega) (by decide) (by decide) (by omega))
 have t2 : takeS (beFrom gsn 8 ++ (beFrom (l.length : Int) 1 ++ (l.flatMap cellB ++ tail))) 8 = (gsn, beFrom (l.length : Int) 1 ++ (l.flatMap cellB ++ tail), true) :=
  take_be (by decide) (by decide) (by omega) (yf (b := 9223372036854775808) (by omega) (by omega) (by decide) (by decide) (by omega))
 have t3 : takeS (beFrom (l.length : Int) 1 ++ (l.flatMap cellB ++ tail)) 1 = ((l.length : Int), l.flatMap cellB ++ tail, true) :=
  take_be (by decide) (by decide) (by omega) (yf (b := 256) (by omega) (by omega) (by decide) (by decide) (by omega))
 have hg : goP0 (laidP no gsn l) = (true, l) := by
  unfold goP0
  simp only [t1, t2, t3, if_true]
  rw [goP_laid l 8 tail [] hc.1 hc.2.2]; rfl
 unfold readP
 rw [hg, t1]
 simp only
 rw [t2]
 simp only
 rw [if_pos ⟨laidP_len h, trivial, trivial⟩]
theorem by8_len {n : Nat} (h : n ≤ 255) : (by8 (n : Int)).toNat = n := by
 unfold by8; rw [UInt8.toNat_ofNat']; omega
end Go.Q
namespace Go.Q
end Go.Q
namespace Go.Q
structure Hd where
 seq : Int
 ep : Int
 cut : Int
 st : Int
 mrk : Int
deriving DecidableEq
def hdZ : Hd := ⟨0, 0, 0, 0, 0⟩
def hdR (h : Hd) : Bool := decide ((0 ≤ h.seq ∧ h.seq ≤ 4611686018427387903) ∧ (0 ≤ h.ep ∧ h.ep ≤ 2147483647) ∧ (0 ≤ h.cut ∧ h.cut ≤ 4611686018427387903) ∧ (0 ≤ h.st ∧ h.st ≤ 4611686018427387903) ∧ (0 ≤ h.mrk ∧ h.mrk ≤ 4611686018427387903))
def hdN (h : Hd) : Bs := beFrom h.seq 8 ++ (beFrom h.ep 8 ++ (beFrom h.cut 8 ++ (beFrom h.st 8 ++ beFrom h.mrk 8)))
theorem hdN_len (h : Hd) : (hdN h).length = 40 := by unfold hdN; simp [zA]
def hdL (h : Hd) : Bs := if hdR h = true then sealS (hdN h) ++ List.replicate 20 0 else []
theorem hdL_len {h : Hd} (hr : hdR h = true) : (hdL h).length = 64 := by
 unfold hdL; rw [if_pos hr, List.length_append, List.length_replicate, sealS, List.length_append, hdN_len, ye]
theorem hdL_no {h : Hd} (hr : hdR h = false) : hdL h = [] := by unfold hdL; rw [if_neg (by rw [hr]; decide)]
def hdP (s : Bs) : Hd × Bool :=
 let t1 := takeS s 8; let t2 := takeS t1.2.1 8; let t3 := takeS t2.2.1 8; let t4 := takeS t3.2.1 8; let t5 := takeS t4.2.1 8
 let h : Hd := ⟨t1.1, t2.1, t3.1, t4.1, t5.1⟩
 if s.length = 64 ∧ hdL h = s then (h, true) else (hdZ, false)
def hdD (s : Bs) : Hd × Bool :=
 let h : Hd := ⟨(takeS s 8).1, (takeS (s.drop 8) 8).1, (takeS (s.drop 16) 8).1, (takeS (s.drop 24) 8).1, (takeS (s.drop 32) 8).1⟩
 if s.length = 64 ∧ hdR h = true ∧ hdL h = s then (h, true) else (hdZ, false)
theorem take8 {x : Int} {more : Bs} (h : 0 ≤ x ∧ x ≤ 4611686018427387903) : takeS (beFrom x 8 ++ more) 8 = (x, more, true) :=
 take_be (by decide) (by decide) (by omega) (yf (b := 9223372036854775808) h.1 (by omega) (by decide) (by decide) (by omega))
theorem hd_tail {h : Hd} (hr : hdR h = true) : ∃ tail : Bs, hdL h = beFrom h.seq 8 ++ (beFrom h.ep 8 ++ (beFrom h.cut 8 ++ (beFrom h.st 8 ++ (beFrom h.mrk 8 ++ tail)))) := by
 refine ⟨laidS (crcS (hdN h)) ++ List.replicate 20 0, ?_⟩
 unfold hdL
 rw [if_pos hr, sealS]
 generalize laidS (crcS (hdN h)) = y
 unfold hdN
 simp only [List.append_assoc]
theorem drop8 {x : Int} {more : Bs} : (beFrom x 8 ++ more).drop 8 = more := List.drop_left' (zA x 8)
theorem hdP_laid {h : Hd} (hr : hdR h = true) : hdP (hdL h) = (h, true) := by
 obtain ⟨tail, ht⟩ := hd_tail hr
 have hb := of_decide_eq_true hr
 obtain ⟨b1, b2, b3, b4, b5⟩ := hb
 unfold hdP
 have t1 : takeS (hdL h) 8 = (h.seq, beFrom h.ep 8 ++ (beFrom h.cut 8 ++ (beFrom h.st 8 ++ (beFrom h.mrk 8 ++ tail))), true) := by rw [ht]; exact take8 b1
 simp only [t1, take8 (x := h.ep) ⟨b2.1, by omega⟩, take8 b3, take8 b4, take8 b5]
 rw [if_pos ⟨hdL_len hr, trivial⟩]
theorem hdD_laid {h : Hd} (hr : hdR h = true) : hdD (hdL h) = (h, true) := by
 obtain ⟨tail, ht⟩ := hd_tail hr
 obtain ⟨b1, b2, b3, b4, b5⟩ := of_decide_eq_true hr
 have d1 : (hdL h).drop 8 = beFrom h.ep 8 ++ (beFrom h.cut 8 ++ (beFrom h.st 8 ++ (beFrom h.mrk 8 ++ tail))) := by rw [ht, drop8]
 have d2 : (hdL h).drop 16 = beFrom h.cut 8 ++ (beFrom h.st 8 ++ (beFrom h.mrk 8 ++ tail)) := by rw [show 16 = 8 + 8 from rfl, ← List.drop_drop, d1, drop8]
 have d3 : (hdL h).drop 24 = beFrom h.st 8 ++ (beFrom h.mrk 8 ++ tail) := by rw [show 24 = 16 + 8 from rfl, ← List.drop_drop, d2, drop8]
 have d4 : (hdL h).drop 32 = beFrom h.mrk 8 ++ tail := by rw [show 32 = 24 + 8 from rfl, ← List.drop_drop, d3, drop8]
 have t1 : takeS (hdL h) 8 = (h.seq, beFrom h.ep 8 ++ (beFrom h.cut 8 ++ (beFrom h.st 8 ++ (beFrom h.mrk 8 ++ tail))), true) := by rw [ht]; exact take8 b1
 unfold hdD
 simp only [d1, d2, d3, d4, t1, take8 (x := h.ep) ⟨b2.1, by omega⟩, take8 b3, take8 b4, take8 b5]
 rw [if_pos ⟨hdL_len hr, hr, trivial⟩]
theorem hdP_true {s : Bs} (h : (hdP s).2 = true) : hdR (hdP s).1 = true ∧ hdL (hdP s).1 = s := by
 unfold hdP at h ⊢
 simp only at h ⊢
 split at h
 ·
  rename_i g
  rw [if_pos g]
  refine ⟨?_, g.2⟩
  cases hr : hdR _ with
  | true => rfl
  | false => have := g.2; rw [hdL_no hr] at this; rw [← this] at g; simp at g
 · cases h
theorem hdD_true {s : Bs} (h : (hdD s).2 = true) : hdR (hdD s).1 = true ∧ hdL (hdD s).1 = s := by
 unfold hdD at h ⊢
 simp only at h ⊢
 split at h
 · rename_i g; rw [if_pos g]; exact g.2
 · cases h
theorem hdP_false {s : Bs} (h : (hdP s).2 = false) : hdP s = (hdZ, false) := by
 unfold hdP at h ⊢
 simp only at h ⊢
 split
 · rename_i g; rw [if_pos g] at h; cases h
 · rfl
theorem hdD_false {s : Bs} (h : (hdD s).2 = false) : hdD s = (hdZ, false) := by
 unfold hdD at h ⊢
 simp only at h ⊢
 split
 · rename_i g; rw [if_pos g] at h; cases h
 · rfl
theorem hd_eq (s : Bs) : hdP s = hdD s := by
 cases h : (hdP s).2 with
 | true =>
  obtain ⟨h1, h2⟩ := hdP_true h
  have e := hdD_laid h1
  rw [h2] at e
  rw [e, ← h]
 | false =>
  cases g : (hdD s).2 with
  | true =>
   obtain ⟨h1, h2⟩ := hdD_true g
   have e := hdP_laid h1
   rw [h2] at e
   rw [e] at h; cases h
  | false => rw [hdP_false h, hdD_false g]
def ldStep (i : Int) (best : Hd × Bool) (r : Hd × Bool) : Hd × Bool := if r.2 = true ∧ r.1.seq % 2 = i ∧ (best.2 = false ∨ best.1.seq < r.1.seq) then (r.1, true) else best
def blankB (s : Bs) : Bool := decide (s = List.replicate 64 0)
def ldP (s t : Bs) : Hd × Int :=
 let b := ldStep 1 (ldStep 0 (hdZ, false) (hdP s)) (hdP t)
 if b.2 = true then (b.1, 0) else if blankB s = true ∧ blankB t = true then (hdZ, 7) else (hdZ, 9)
def ldD (s t : Bs) : Hd × Int :=
 let a := hdD s; let b := hdD t
 let x := a.2 && decide (a.1.seq % 2 = 0); let y := b.2 && decide (b.1.seq % 2 = 1)
 if x = true ∧ (y = false ∨ b.1.seq < a.1.seq) then (a.1, 0) else if y = true then (b.1, 0) else if blankB s = true ∧ t = s then (hdZ, 7) else (hdZ, 9)
theorem ld_eq (s t : Bs) : ldP s t = ldD s t := by
 have hb : (blankB s = true ∧ blankB t = true) ↔ (blankB s = true ∧ t = s) := by
  unfold blankB
  simp only [decide_eq_true_eq]
  constructor
  · rintro ⟨h1, h2⟩; exact ⟨h1, by rw [h1, h2]⟩
  · rintro ⟨h1, h2⟩; exact ⟨h1, by rw [h2, h1]⟩
 unfold ldP ldD
 rw [hd_eq s, hd_eq t]
 generalize hdD s = a
 generalize hdD t = b
 obtain ⟨a1, a2⟩ := a
 obtain ⟨b1, b2⟩ := b
 unfold ldStep
 by_cases hx : a2 = true ∧ a1.seq % 2 = 0
 ·
  obtain ⟨rfl, hx2⟩ := hx
  by_cases hy : b2 = true ∧ b1.seq % 2 = 1
  ·
   obtain ⟨rfl, hy2⟩ := hy
   by_cases hc : a1.seq < b1.seq
   ·
    have : ¬ b1.seq < a1.seq := by omega
    simp [hx2, hy2, hc, this]
   ·
    have : b1.seq < a1.seq := by omega
    simp [hx2, hy2, hc, this]
  ·
   have : (b2 && decide (b1.seq % 2 = 1)) = false := by cases b2 <;> simp_all
   have hn : ¬ (b2 = true ∧ b1.seq % 2 = 1 ∧ a1.seq < b1.seq) := fun g => hy ⟨g.1, g.2.1⟩
   simp [hx2, this, hn]
 ·
  have hxf : (a2 && decide (a1.seq % 2 = 0)) = false := by cases a2 <;> simp_all
  by_cases hy : b2 = true ∧ b1.seq % 2 = 1
  ·
   obtain ⟨rfl, hy2⟩ := hy
   have : ¬ (a2 = true ∧ a1.seq % 2 = 0) := hx
   simp [hxf, hy2, this]
  ·
   have hyf : (b2 && decide (b1.seq % 2 = 1)) = false := by cases b2 <;> simp_all
   have h1 : ¬ (a2 = true ∧ a1.seq % 2 = 0) := hx
   have h2 : ¬ (b2 = true ∧ b1.seq % 2 = 1) := hy
   simp [hxf, hyf, h1, h2, hb]
end Go.Q
namespace Go.Q
abbrev yH (h : Hd) : Array Value := #[(.int .i64 h.seq), (.int .i64 h.ep), (.int .i64 h.cut), (.int .i64 h.st), (.int .i64 h.mrk)]
abbrev yL (h : Hd) : List Value := [(.int .i64 h.seq), (.int .i64 h.ep), (.int .i64 h.cut), (.int .i64 h.st), (.int .i64 h.mrk)]
theorem y5 {a b c d e : Int} : ∀ u ∈ ([(.int .i64 a), (.int .i64 b), (.int .i64 c), (.int .i64 d), (.int .i64 e)] : List Value), u.oneCell' = true := by
 intro u hu; simp only [List.mem_cons, List.not_mem_nil, or_false] at hu; rcases hu with rfl | rfl | rfl | rfl | rfl <;> rfl
end Go.Q
namespace Go.Q
structure Calm (p : Pw) (k : Nat) : Prop where
 off : p.off = false
 arm : p.armed = false
 u0 : 0 ≤ p.uses
 u1 : p.uses ≤ k
 l0 : -(k : Int) ≤ p.left
 l1 : p.left ≤ 0
theorem Calm.ok {p : Pw} {k : Nat} (h : Calm p k) (hk : k ≤ 1000000) : PwOk p := by
 obtain ⟨_, _, h1, h2, h3, h4⟩ := h
 exact ⟨h1, by omega, by omega, by omega⟩
theorem Calm.use {p : Pw} {k : Nat} (h : Calm p k) : Calm (useS p) (k + 1) := by
 obtain ⟨h1, h2, h3, h4, h5, h6⟩ := h
 unfold useS
 rw [if_neg (by rw [h1]; decide), h2]
 exact ⟨rfl, rfl, by show 0 ≤ p.uses + 1; omega, by show p.uses + 1 ≤ _; omega, by show _ ≤ p.left - 1; omega, by show p.left - 1 ≤ 0; omega⟩
theorem Calm.b {p : Pw} {k : Nat} (h : Calm p k) : useB p = true := by
 have := h.use.off
 unfold useB; rw [h.off, this]; rfl
theorem Calm.mono {p : Pw} {k m : Nat} (h : Calm p k) (hk : k ≤ m) : Calm p m := ⟨h.off, h.arm, h.u0, by have := h.u1; omega, by have := h.l0; omega, h.l1⟩
theorem Calm.back {p : Pw} {k : Nat} (h : Calm p k) : Calm (backS p) k := ⟨rfl, rfl, h.u0, h.u1, h.l0, h.l1⟩
theorem Calm.new : Calm (Pw.mk false false 0 0) 0 := ⟨rfl, rfl, by decide, by decide, by decide, by decide⟩
theorem settle_at {lo : List (Int × Bs)} (h0 : ∀ n, (getB lo n).isSome = true → 0 ≤ n) (j : Nat) : ∀ (keep : List Int) (la : List Bs), j < la.length → (settleS lo la keep)[j]? = if (j : Int) ∈ keep ∧ (getB lo (j : Int)).isSome = true then getB lo (j : Int) else la[j]?
 | [], la, _ => by simp [settleS]
 | n :: keep, la, hj => by
  show (settleS lo (match getB lo n with | some s => la.set n.toNat s | none => la) keep)[j]? = _
  cases hn : getB lo n with
  | none =>
   rw [settle_at h0 j keep la hj]
   by_cases e : (j : Int) = n
   · rw [e, hn]; simp
   · simp [List.mem_cons, e]
  | some s =>
   show (settleS lo (la.set n.toNat s) keep)[j]? = _
   rw [settle_at h0 j keep (la.set n.toNat s) (by simpa using hj)]
   have hp := h0 n (by rw [hn]; rfl)
   by_cases e : (j : Int) = n
   ·
    subst e
    rw [hn]
    simp [hj]
   ·
    have g : n.toNat ≠ j := by omega
    simp [List.mem_cons, e, List.getElem?_set, g]
theorem LoOk.nn {lo : List (Int × Bs)} {k : Nat} (h : LoOk lo k) : ∀ n, (getB lo n).isSome = true → 0 ≤ n := fun n g => (h.get g).1
theorem keysS_mem {lo : List (Int × Bs)} {n : Int} : n ∈ keysS lo ↔ (getB lo n).isSome = true := by
 unfold keysS; rw [(List.mergeSort_perm _ _).mem_iff, getB_mem]
def okT (l : List Bs) (j : Nat) : Prop := j < l.length ∧ ((l[j]?).getD []).length ≤ 64
instance (l : List Bs) (j : Nat) : Decidable (okT l j) := inferInstanceAs (Decidable (_ ∧ _))
def secT (base l : List Bs) (j : Nat) : Bs := if okT l j then fillS ((l[j]?).getD []) else (base[j]?).getD []
theorem secT_no {base l : List Bs} {j : Nat} (h : ¬ okT l j) : secT base l j = (base[j]?).getD [] := by unfold secT; rw [if_neg h]
def WR (k : Nat) (l : List Bs) (i : Nat) (lo : List (Int × Bs)) : Prop := (∀ j : Nat, j < k → getB lo (j : Int) = if j < i ∧ okT l j then some (fillS ((l[j]?).getD [])) else none) ∧ LoOk lo k
theorem LoOk.nil (k : Nat) : LoOk [] k := fun p h => by simp at h
theorem LoOk.put {lo : List (Int × Bs)} {k : Nat} (h : LoOk lo k) {n : Int} {s : Bs} (hn : inS n k) (hs : s.length = 64) : LoOk (putB lo n s) k := by
 intro p hp
 have : ∀ l : List (Int × Bs), p ∈ putB l n s → p = (n, s) ∨ p ∈ l := by
  intro l
  induction l with
  | nil => intro h; exact .inl (List.mem_singleton.1 h)
  | cons q t ih =>
   obtain ⟨a, u⟩ := q
   intro h
   rw [putB] at h
   split at h
   ·
    rcases List.mem_cons.1 h with e | e
    · exact .inl e
    · exact .inr (List.mem_cons_of_mem _ e)
   ·
    rcases List.mem_cons.1 h with e | e
    · exact .inr (by rw [e]; exact List.mem_cons_self ..)
    ·
     rcases ih e with e | e
     · exact .inl e
     · exact .inr (List.mem_cons_of_mem _ e)
 rcases this lo hp with rfl | g
 · exact ⟨hn, hs⟩
 · exact h p g
theorem LoOk.del {lo : List (Int × Bs)} {k : Nat} (h : LoOk lo k) (n : Int) : LoOk (delB lo n) k := fun p hp => h p ((delB_sub n lo).subset hp)
theorem LoOk.write {lo : List (Int × Bs)} {k : Nat} (h : LoOk lo k) (p : Pw) (n : Int) (s : Bs) : LoOk (writeS p k lo n s) k := by
 unfold writeS
 split
 · rename_i g; exact h.put g.2.2 (fill_len g.2.1)
 · exact h
theorem WR.start (k : Nat) (l : List Bs) : WR k l 0 [] := ⟨fun j _ => by simp [getB], LoOk.nil k⟩
theorem WR.no {k i : Nat} {l : List Bs} {lo : List (Int × Bs)} (h : WR k l i lo) (hx : ¬ okT l i) : WR k l (i + 1) lo := by
 refine ⟨fun j hj => ?_, h.2⟩
 rw [h.1 j hj]
 by_cases g : j = i
 · subst g; simp [hx]
 ·
  by_cases c : j < i
  · simp [c, show j < i + 1 by omega]
  · simp [c, show ¬ j < i + 1 by omega]
theorem WR.at {k j : Nat} {l la : List Bs} {lo : List (Int × Bs)} (h : WR k l k lo) (hl : la.length = k) (hj : j < k) (keep : List Int) : (settleS lo la keep)[j]? = some (if (j : Int) ∈ keep then secT la l j else (la[j]?).getD []) := by
 rw [settle_at h.2.nn j keep la (by omega), h.1 j hj]
 have hla : la[j]? = some la[j] := List.getElem?_eq_getElem (by omega)
 by_cases c : okT l j
 ·
  simp only [hj, c, and_self, if_true, Option.isSome_some, and_true]
  by_cases d : (j : Int) ∈ keep
  · rw [if_pos d, if_pos d]; unfold secT; rw [if_pos c]
  · rw [if_neg d, if_neg d, hla]; rfl
 ·
  simp only [c, and_false, if_false, Option.isSome_none, Bool.false_eq_true]
  rw [hla, secT_no c]
  split <;> simp [hla]
theorem map_range_get {α : Type} (f : Nat → α) {k j : Nat} (hj : j < k) : ((List.range k).map f)[j]? = some (f j) := by
 rw [List.getElem?_map, List.getElem?_range hj]; rfl
theorem WR.sync {k : Nat} {l la : List Bs} {lo : List (Int × Bs)} (h : WR k l k lo) (hl : la.length = k) : settleS lo la (keysS lo) = (List.range k).map (secT la l) := by
 refine List.ext_getElem? fun j => ?_
 rcases Nat.lt_or_ge j k with hj | hj
 ·
  rw [h.at hl hj, map_range_get _ hj]
  by_cases c : okT l j
  · rw [if_pos (keysS_mem.2 (by rw [h.1 j hj, if_pos ⟨hj, c⟩]; rfl))]
  · rw [secT_no c]; simp
 · rw [List.getElem?_eq_none (by rw [settle_len]; omega), List.getElem?_eq_none (by simp; omega)]
theorem keys_nil : keysS ([] : List (Int × Bs)) = [] := by simp [keysS]
end Go.Q
namespace Go.Q
theorem sub_perm : ∀ {S R : List Hp}, S.Nodup → S ⊆ R → ∃ rest, R.Perm (S ++ rest)
 | [], R, _, _ => ⟨R, .refl _⟩
 | a :: S, R, hn, hs => by
  obtain ⟨l1, l2, rfl⟩ := List.append_of_mem (hs List.mem_cons_self)
  obtain ⟨rest, h⟩ := sub_perm (S := S) (R := l1 ++ l2) (List.nodup_cons.1 hn).2 (fun x hx => by
   have g := hs (List.mem_cons_of_mem _ hx)
   have hne : x ≠ a := fun e => (List.nodup_cons.1 hn).1 (e ▸ hx)
   simp only [List.mem_append, List.mem_cons] at g ⊢
   rcases g with g | g | g
   · exact .inl g
   · exact absurd g hne
   · exact .inr g)
  exact ⟨rest, List.perm_middle.trans (h.cons a)⟩
theorem Has.part {E w : World} {S R : List Hp} (H : Has E w [R]) (hn : S.Nodup) (hs : S ⊆ R) : ∃ rest, R.Perm (S ++ rest) ∧ Has E w [S, rest] := by
 obtain ⟨rest, hp⟩ := sub_perm hn hs
 refine ⟨rest, hp, ?_⟩
 have h0 : Has0 E w R := by simpa [Has] using H
 have h1 := h0.perm hp.symm
 simpa [Has] using h1
theorem Has.open2 {E w : World} {a b : List Hp} {ss : List (List Hp)} (H : Has E w ((a ++ b) :: ss)) : Has E w (a :: b :: ss) := by
 unfold Has at *; simpa [List.append_assoc] using H
theorem Has.close2 {E w : World} {a b : List Hp} {ss : List (List Hp)} (H : Has E w (a :: b :: ss)) : Has E w ((a ++ b) :: ss) := by
 unfold Has at *; simpa [List.append_assoc] using H
def Full (S : List Hp) : Prop := ∀ h ∈ S, ∃ b o, h b = some o
theorem Full.one (b : Nat) (o : Obj) : Full [Hp.one b o] := fun h hh => ⟨b, o, by rw [List.mem_singleton.1 hh]; exact Hp.one_at b o⟩
theorem Full.app {S T : List Hp} (h : Full S) (g : Full T) : Full (S ++ T) := fun x hx => (List.mem_append.1 hx).elim (h x) (g x)
theorem Full.nodup {E w : World} {S : List Hp} {ss : List (List Hp)} (hf : Full S) (H : Has E w (S :: ss)) : S.Nodup := by
 have h0 : Has0 E w (S ++ ss.flatten) := by simpa [Has] using H
 have h1 : S.Pairwise Hp.dis := h0.dj.sublist (List.sublist_append_left _ _)
 refine List.Pairwise.imp_of_mem (fun {a b} ha hb d e => ?_) h1
 subst e
 obtain ⟨x, o, hx⟩ := hf a ha
 rcases d x with g | g <;> rw [hx] at g <;> cases g
theorem LoOk.sync {lo : List (Int × Bs)} {k : Nat} (h : LoOk lo k) (p : Pw) : LoOk (syncO p lo) k := by
 unfold syncO; split
 · exact LoOk.nil k
 · exact h
theorem putA_len (la : List Bs) (n : Int) (s : Bs) : (putA la n s).length = la.length := by
 unfold putA; split <;> simp
end Go.Q
namespace Go.Q
def useM (q : Pw) : Pw := if q.off = true then q else if q.armed = true ∧ q.left = 0 then ⟨true, q.armed, q.left, q.uses + 1⟩ else ⟨q.off, q.armed, q.left - 1, q.uses + 1⟩
def useMB (q : Pw) : Bool := !q.off && !(q.armed && decide (q.left = 0))
structure PR (k : Nat) (p q : Pw) : Prop where
 off : p.off = q.off
 arm : p.armed = q.armed
 uses : p.uses = q.uses
 left : p.off = false → p.armed = true → p.left = q.left
 u0 : 0 ≤ p.uses
 u1 : p.uses ≤ k
 l0 : -(k : Int) ≤ p.left
 l1 : p.left ≤ 9223372036854775807
 m0 : -(k : Int) ≤ q.left
 m1 : q.left ≤ 9223372036854775807
theorem PR.mono {k m : Nat} {p q : Pw} (h : PR k p q) (hk : k ≤ m) : PR m p q := by
 obtain ⟨h1, h2, h3, h4, h5, h6, h7, h8, h9, h10⟩ := h
 exact ⟨h1, h2, h3, h4, h5, by omega, by omega, h8, by omega, h10⟩
theorem PR.ok {k : Nat} {p q : Pw} (h : PR k p q) (hk : k ≤ 1000000) : PwOk p ∧ PwOk q := by
 obtain ⟨h1, h2, h3, h4, h5, h6, h7, h8, h9, h10⟩ := h
 exact ⟨⟨h5, by omega, by omega, h8⟩, ⟨by omega, by omega, by omega, h10⟩⟩
theorem PR.new : PR 0 (Pw.mk false false 0 0) (Pw.mk false false 0 0) := ⟨rfl, rfl, rfl, fun _ _ => rfl, by decide, by decide, by decide, by decide, by decide, by decide⟩
theorem PR.b {k : Nat} {p q : Pw} (h : PR k p q) : useB p = useMB q := by
 obtain ⟨h1, h2, h3, h4, _⟩ := h
 obtain ⟨o, a, l, u⟩ := p
 obtain ⟨o', a', l', u'⟩ := q
 simp only at h1 h2 h3 h4
 subst h1 h2 h3
 unfold useB useMB useS
 cases o with
 | true => rfl
 | false =>
  cases a with
  | false => rfl
  | true => rw [h4 rfl rfl]; rfl
theorem PR.use {k : Nat} {p q : Pw} (h : PR k p q) : PR (k + 1) (useS p) (useM q) := by
 obtain ⟨h1, h2, h3, h4, h5, h6, h7, h8, h9, h10⟩ := h
 obtain ⟨o, a, l, u⟩ := p
 obtain ⟨o', a', l', u'⟩ := q
 simp only at h1 h2 h3 h4 h5 h6 h7 h8 h9 h10
 subst h1 h2 h3
 unfold useS useM
 cases o with
 | true => exact ⟨rfl, rfl, rfl, (fun g => by cases g), h5, (by show u ≤ _; omega), (by show _ ≤ l; omega), h8, (by show _ ≤ l'; omega), h10⟩
 | false =>
  cases a with
  | false => exact ⟨rfl, rfl, rfl, (fun _ g => by cases g), (by show 0 ≤ u + 1; omega), (by show u + 1 ≤ _; omega), (by show _ ≤ l - 1; omega), (by show l - 1 ≤ _; omega), (by show _ ≤ l' - 1; omega), (by show l' - 1 ≤ _; omega)⟩
  | true =>
   have e := h4 rfl rfl
   subst e
   by_cases g : l = 0
   · subst g; exact ⟨rfl, rfl, rfl, (fun g => by simp at g), (by show 0 ≤ u + 1; omega), (by show u + 1 ≤ _; omega), (by simp; omega), (by simp), (by simp; omega), (by simp)⟩
   ·
    simp only [g, Bool.false_eq_true, if_false, and_false, decide_false, Bool.and_false]
    exact ⟨rfl, rfl, rfl, (fun _ _ => rfl), (by show 0 ≤ u + 1; omega), (by show u + 1 ≤ _; omega), (by show _ ≤ l - 1; omega), (by show l - 1 ≤ _; omega), (by show _ ≤ l - 1; omega), (by show l - 1 ≤ _; omega)⟩
theorem PR.back {k : Nat} {p q : Pw} (h : PR k p q) : PR k (backS p) ⟨false, false, q.left, q.uses⟩ := by
 obtain ⟨h1, h2, h3, h4, h5, h6, h7, h8, h9, h10⟩ := h
 exact ⟨rfl, rfl, h3, (fun _ g => by cases g), h5, h6, h7, h8, h9, h10⟩
def nowAt (la : List Bs) (lo : List (Int × Bs)) (j : Nat) : Bs := (getB lo (j : Int)).getD ((la[j]?).getD [])
def nowS (la : List Bs) (lo : List (Int × Bs)) : List Bs := (List.range la.length).map (nowAt la lo)
theorem now_len (la : List Bs) (lo : List (Int × Bs)) : (nowS la lo).length = la.length := by simp [nowS]
theorem now_get {la : List Bs} {lo : List (Int × Bs)} {j : Nat} (hj : j < la.length) : (nowS la lo)[j]? = some (nowAt la lo j) := map_range_get _ hj
structure Sim (la : List Bs) (lo : List (Int × Bs)) (nw : List Bs) (ls : List Int) : Prop where
 ok : LoOk lo la.length
 nd : (lo.map (·.1)).Nodup
 nw : nw = nowS la lo
 ls : ls = keysS lo
theorem keys_sorted {lo : List (Int × Bs)} (h : (lo.map (·.1)).Nodup) : (keysS lo).Pairwise (· < ·) := by
 have h1 : (keysS lo).Pairwise (fun x y => decide (x ≤ y) = true) := List.pairwise_mergeSort (fun a b c => by simp; omega) (fun a b => by simp; omega) _
 have h2 : (keysS lo).Nodup := (List.mergeSort_perm _ _).nodup_iff.2 h
 exact (h1.and h2).imp fun g => by have := g.1; have := g.2; simp at *; omega
theorem Sim.len {la : List Bs} {lo : List (Int × Bs)} {nw : List Bs} {ls : List Int} (h : Sim la lo nw ls) : nw.length = la.length := by rw [h.nw, now_len]
theorem del_nodup {lo : List (Int × Bs)} (h : (lo.map (·.1)).Nodup) (n : Int) : ((delB lo n).map (·.1)).Nodup := h.sublist ((delB_sub n lo).map _)
theorem keys_del {lo : List (Int × Bs)} (h : (lo.map (·.1)).Nodup) (n : Int) : withS n (!false) (keysS lo) = keysS (delB lo n) :=
 sorted_eq (with_sorted (keys_sorted h)) (keys_sorted (del_nodup h n)) fun x => by
  rw [with_mem, keysS_mem, keysS_mem, getB_del _ _ _ h, if_neg (by decide)]
  by_cases e : x = n
  · simp [e]
  · simp [e]
theorem now_put {la : List Bs} {lo : List (Int × Bs)} {n : Int} (t : Bs) (hn : inS n la.length) : (nowS la lo).set n.toNat t = nowS la (putB lo n t) := by
 refine List.ext_getElem? fun j => ?_
 rw [List.getElem?_set, now_len]
 obtain ⟨h0, h1⟩ := hn
 by_cases e : n.toNat = j
 ·
  subst e
  rw [if_pos rfl, if_pos (by omega), now_get (by omega)]
  unfold nowAt; rw [getB_put, if_pos (by omega)]; rfl
 ·
  rw [if_neg e]
  rcases Nat.lt_or_ge j la.length with hj | hj
  · rw [now_get hj, now_get hj]; unfold nowAt; rw [getB_put, if_neg (by omega)]
  · rw [List.getElem?_eq_none (by rw [now_len]; exact hj), List.getElem?_eq_none (by rw [now_len]; exact hj)]
theorem now_del {la : List Bs} {lo : List (Int × Bs)} {n : Int} (t : Bs) (hn : inS n la.length) (hd : (lo.map (·.1)).Nodup) : (nowS la lo).set n.toNat t = nowS (la.set n.toNat t) (delB lo n) := by
 refine List.ext_getElem? fun j => ?_
 rw [List.getElem?_set, now_len]
 obtain ⟨h0, h1⟩ := hn
 have hl : (la.set n.toNat t).length = la.length := List.length_set
 by_cases e : n.toNat = j
 ·
  subst e
  rw [if_pos rfl, if_pos (by omega), now_get (by omega)]
  unfold nowAt; rw [getB_del _ _ _ hd, if_pos (by omega), List.getElem?_set, if_pos rfl, if_pos (by omega)]; rfl
 ·
  rw [if_neg e]
  rcases Nat.lt_or_ge j la.length with hj | hj
  · rw [now_get hj, now_get (by omega)]; unfold nowAt; rw [getB_del _ _ _ hd, if_neg (by omega), List.getElem?_set, if_neg e]
  · rw [List.getElem?_eq_none (by rw [now_len]; exact hj), List.getElem?_eq_none (by rw [now_len]; omega)]
theorem now_nil (la : List Bs) : nowS la [] = la := by
 refine List.ext_getElem? fun j => ?_
 rcases Nat.lt_or_ge j la.length with hj | hj
 · rw [now_get hj]; unfold nowAt; simp [getB, hj]
 · rw [List.getElem?_eq_none (by rw [now_len]; exact hj), List.getElem?_eq_none hj]
theorem now_sync {la : List Bs} {lo : List (Int × Bs)} (h : LoOk lo la.length) : settleS lo la (keysS lo) = nowS la lo := by
 refine List.ext_getElem? fun j => ?_
 rcases Nat.lt_or_ge j la.length with hj | hj
 ·
  rw [settle_at h.nn j _ _ hj, now_get hj]
  simp only [keysS_mem]
  unfold nowAt
  cases e : getB lo (j : Int) with
  | none => simp [hj]
  | some s => simp
 · rw [List.getElem?_eq_none (by rw [settle_len]; exact hj), List.getElem?_eq_none (by rw [now_len]; exact hj)]
section
variable {la : List Bs} {lo : List (Int × Bs)} {nw : List Bs} {ls : List Int} (h : Sim la lo nw ls) {p q : Pw} {k : Nat} {n : Int} {s : Bs}
include h
theorem Sim.put_ok (hs : s.length ≤ 64) (hn : inS n la.length) : Sim (putA la n s) (putO la.length lo n s) (nw.set n.toNat (fillS s)) (withS n (!false) ls) ∧ putE la.length n s = 0 ∧ putA la n s = la.set n.toNat (fillS s) := by
 unfold putA putO putE
 rw [if_pos ⟨hs, hn⟩, if_pos ⟨hs, hn⟩, if_pos ⟨hs, hn⟩]
 exact ⟨⟨by rw [List.length_set]; exact h.ok.del n, del_nodup h.nd _, by rw [h.nw, now_del _ hn h.nd], by rw [h.ls, keys_del h.nd]⟩, rfl, rfl⟩
end
def crA (la nw : List Bs) (keep : List Int) (k j : Nat) : Bs := if j < k ∧ (j : Int) ∈ keep then (nw[j]?).getD [] else (la[j]?).getD []
def crN (la nw : List Bs) (keep : List Int) (k j : Nat) : Bs := if j < k then crA la nw keep k j else (nw[j]?).getD []
def crAS (la nw : List Bs) (keep : List Int) (k : Nat) : List Bs := (List.range la.length).map (crA la nw keep k)
def crNS (la nw : List Bs) (keep : List Int) (k : Nat) : List Bs := (List.range la.length).map (crN la nw keep k)
theorem cr_len (la nw : List Bs) (keep : List Int) (k : Nat) : (crAS la nw keep k).length = la.length ∧ (crNS la nw keep k).length = la.length := by simp [crAS, crNS]
theorem Sim.crash {la : List Bs} {lo : List (Int × Bs)} {nw : List Bs} {ls : List Int} (h : Sim la lo nw ls) (keep : List Int) :
  crAS la nw keep la.length = settleS lo la keep ∧ crNS la nw keep la.length = settleS lo la keep ∧ Sim (settleS lo la keep) [] (settleS lo la keep) [] := by
 have e : crAS la nw keep la.length = settleS lo la keep := by
  refine List.ext_getElem? fun j => ?_
  rcases Nat.lt_or_ge j la.length with hj | hj
  ·
   rw [show (crAS la nw keep la.length)[j]? = some (crA la nw keep la.length j) from map_range_get _ hj, settle_at h.ok.nn j _ _ hj]
   unfold crA
   rw [h.nw, now_get hj]
   unfold nowAt
   by_cases g : (j : Int) ∈ keep
   ·
    cases e : getB lo (j : Int) with
    | none => simp [hj]
    | some s => simp [hj, g]
   · simp [g, hj]
  · rw [List.getElem?_eq_none (by rw [(cr_len la nw keep la.length).1]; exact hj), List.getElem?_eq_none (by rw [settle_len]; exact hj)]
 refine ⟨e, ?_, ⟨LoOk.nil _, List.nodup_nil, (now_nil _).symm, keys_nil.symm⟩⟩
 rw [← e]
 unfold crNS crAS
 refine List.map_congr_left fun j hj => ?_
 unfold crN; rw [if_pos (List.mem_range.1 hj)]
theorem Sim.new (k : Nat) : Sim (List.replicate k blankS) [] (List.replicate k blankS) [] := ⟨LoOk.nil _, List.nodup_nil, (now_nil _).symm, keys_nil.symm⟩
end Go.Q
namespace Go.Q
structure Pc where
 sec : Int
 frm : Int
 upto : Int
def pcC (p : Pc) : List Value := [iV p.sec, iV p.frm, iV p.upto]
theorem pcC_len (p : Pc) : (pcC p).length = 3 := rfl
theorem one_pcC (l : List Pc) : ∀ u ∈ l.flatMap pcC, u.oneCell' = true := by
 intro u hu
 obtain ⟨p, _, hp⟩ := List.mem_flatMap.1 hu
 simp only [pcC, List.mem_cons, List.not_mem_nil, or_false] at hp
 rcases hp with rfl | rfl | rfl <;> rfl
def piece1 (fr at_ size : Int) : Pc := ⟨fr + at_ / 64, at_ % 64, min (at_ % 64 + size) 64⟩
def piecesS (fr L : Int) : Nat → Int → Int → List Pc
 | 0, _, _ => []
 | f + 1, at_, size => if size ≤ 0 then [] else piece1 fr at_ size :: piecesS fr L f ((at_ + ((piece1 fr at_ size).upto - (piece1 fr at_ size).frm)) % L) (size - ((piece1 fr at_ size).upto - (piece1 fr at_ size).frm))
theorem piece1_d {fr at_ size : Int} (h0 : 0 ≤ at_) (hs : 0 < size) : 0 < (piece1 fr at_ size).upto - (piece1 fr at_ size).frm ∧ (piece1 fr at_ size).upto - (piece1 fr at_ size).frm ≤ size ∧ 0 ≤ (piece1 fr at_ size).frm ∧ (piece1 fr at_ size).frm < 64 ∧ (piece1 fr at_ size).upto ≤ 64 := by
 unfold piece1; simp only; omega
theorem pieces_fuel (fr L : Int) (hL : 0 < L) : ∀ (f g : Nat) (at_ size : Int), 0 ≤ at_ → size.toNat ≤ f → size.toNat ≤ g → piecesS fr L f at_ size = piecesS fr L g at_ size
 | 0, 0, _, _, _, _, _ => rfl
 | 0, g + 1, at_, size, _, h, _ => by rw [piecesS, piecesS, if_pos (by omega)]
 | f + 1, 0, at_, size, _, _, h => by rw [piecesS, piecesS, if_pos (by omega)]
 | f + 1, g + 1, at_, size, h0, h1, h2 => by
  rw [piecesS, piecesS]
  split
  · rfl
  ·
   obtain ⟨d1, d2, _⟩ := piece1_d (fr := fr) h0 (size := size) (by omega)
   rw [pieces_fuel fr L hL f g _ _ (Int.emod_nonneg _ (by omega)) (by omega) (by omega)]
def allP (fr L at_ size : Int) : List Pc := piecesS fr L size.toNat at_ size
theorem allP_none {fr L at_ size : Int} (h : size ≤ 0) : allP fr L at_ size = [] := by
 unfold allP; rw [show size.toNat = 0 by omega]; rfl
theorem allP_step {fr L at_ size : Int} (hL : 0 < L) (h0 : 0 ≤ at_) (hs : 0 < size) : allP fr L at_ size = piece1 fr at_ size :: allP fr L ((at_ + ((piece1 fr at_ size).upto - (piece1 fr at_ size).frm)) % L) (size - ((piece1 fr at_ size).upto - (piece1 fr at_ size).frm)) := by
 unfold allP
 obtain ⟨k, hk⟩ : ∃ k, size.toNat = k + 1 := ⟨size.toNat - 1, by omega⟩
 rw [hk, piecesS, if_neg (by omega)]
 obtain ⟨d1, d2, _⟩ := piece1_d (fr := fr) h0 hs
 rw [pieces_fuel fr L hL k (size - ((piece1 fr at_ size).upto - (piece1 fr at_ size).frm)).toNat _ _ (Int.emod_nonneg _ (by omega)) (by omega) (Nat.le_refl _)]
def PcOk (fr n : Int) (p : Pc) : Prop := fr ≤ p.sec ∧ p.sec < fr + n ∧ 0 ≤ p.frm ∧ p.frm < p.upto ∧ p.upto ≤ 64
theorem pieces_ok {fr n : Int} (hn : 0 < n) : ∀ (f : Nat) (at_ size : Int), 0 ≤ at_ → at_ < n * 64 → ∀ p ∈ piecesS fr (n * 64) f at_ size, PcOk fr n p
 | 0, _, _, _, _, p, hp => by cases hp
 | f + 1, at_, size, h0, h1, p, hp => by
  rw [piecesS] at hp
  split at hp
  · cases hp
  ·
   rcases List.mem_cons.1 hp with rfl | hp
   ·
    obtain ⟨d1, d2, d3, d4, d5⟩ := piece1_d (fr := fr) h0 (size := size) (by omega)
    refine ⟨?_, ?_, d3, by omega, d5⟩
    · show fr ≤ fr + at_ / 64; omega
    · show fr + at_ / 64 < fr + n; omega
   · exact pieces_ok hn f _ _ (Int.emod_nonneg _ (by omega)) (Int.emod_lt_of_pos _ (by omega)) p hp
def plen (ps : List Pc) : Int := (ps.map (fun p => p.upto - p.frm)).foldr (· + ·) 0
theorem pieces_len {fr L : Int} (hL : 0 < L) : ∀ (f : Nat) (at_ size : Int), 0 ≤ at_ → 0 ≤ size → size.toNat ≤ f → plen (piecesS fr L f at_ size) = size
 | 0, at_, size, _, h1, h2 => by show (0 : Int) = size; omega
 | f + 1, at_, size, h0, h1, h2 => by
  rw [piecesS]
  split
  · show (0 : Int) = size; omega
  ·
   obtain ⟨d1, d2, _⟩ := piece1_d (fr := fr) h0 (size := size) (by omega)
   show ((piece1 fr at_ size).upto - (piece1 fr at_ size).frm) + plen (piecesS fr L f _ _) = size
   rw [pieces_len hL f _ _ (Int.emod_nonneg _ (by omega)) (by omega) (by omega)]; omega
theorem pieces_count {fr L : Int} : ∀ (f : Nat) (at_ size : Int), (piecesS fr L f at_ size).length ≤ f
 | 0, _, _ => Nat.le_refl _
 | f + 1, at_, size => by
  rw [piecesS]
  split
  · simp
  · simp only [List.length_cons]; have := pieces_count (fr := fr) (L := L) f ((at_ + ((piece1 fr at_ size).upto - (piece1 fr at_ size).frm)) % L) (size - ((piece1 fr at_ size).upto - (piece1 fr at_ size).frm)); omega
theorem plen_nn : ∀ {ps : List Pc}, (∀ p ∈ ps, p.frm < p.upto) → 0 ≤ plen ps
 | [], _ => Int.le_refl _
 | p :: ps, h => by
  have h1 := plen_nn fun q hq => h q (List.mem_cons_of_mem _ hq)
  have h2 := h p List.mem_cons_self
  show 0 ≤ (p.upto - p.frm) + plen ps
  omega
theorem plen_drop {ps : List Pc} {j : Nat} {x : Pc} {fr n : Int} (hk : ∀ p ∈ ps, PcOk fr n p) (hx : ps[j]? = some x) : plen (ps.drop j) = (x.upto - x.frm) + plen (ps.drop (j + 1)) ∧ 0 ≤ plen (ps.drop (j + 1)) := by
 rw [drop_of hx]
 exact ⟨rfl, plen_nn fun p hp => (hk p (List.mem_of_mem_drop hp)).2.2.2.1⟩
theorem sum2 {a b : Int} (ha : 0 ≤ a ∧ a ≤ 1000000000) (hb : 0 ≤ b ∧ b ≤ 1000000000) : sumS 0 [a, b] = a + b := by
 simp only [sumS]; rw [if_neg (by omega), if_neg (by omega)]; omega
theorem flat_take_le (l : List Bs) (i : Nat) : (l.take i).flatten.length ≤ l.flatten.length := by
 have h : (l.take i ++ l.drop i).flatten.length = l.flatten.length := by rw [List.take_append_drop]
 rw [List.flatten_append, List.length_append] at h; omega
def partP (x : Bs) (p : Pc) : Bs := (x.take p.upto.toNat).drop p.frm.toNat
def getP (la : List Bs) (lo : List (Int × Bs)) (ps : List Pc) : Bs := ps.flatMap fun p => partP (nowAt la lo p.sec.toNat) p
theorem getP_snoc (la : List Bs) (lo : List (Int × Bs)) (a : List Pc) (p : Pc) : getP la lo (a ++ [p]) = getP la lo a ++ partP (nowAt la lo p.sec.toNat) p := by
 unfold getP; rw [List.flatMap_append, List.flatMap_cons, List.flatMap_nil, List.append_nil]
def putA1 (la : List Bs) (lo : List (Int × Bs)) (p : Pc) (all : Bs) : Bs := (nowAt la lo p.sec.toNat).take p.frm.toNat ++ (all.take (p.upto - p.frm).toNat ++ (nowAt la lo p.sec.toNat).drop p.upto.toNat)
def setP (la : List Bs) : List Pc → List (Int × Bs) → Bs → List (Int × Bs)
 | [], lo, _ => lo
 | p :: ps, lo, all => setP la ps (putB lo p.sec (fillS (putA1 la lo p all))) (all.drop (p.upto - p.frm).toNat)
def Full64 (la : List Bs) : Prop := ∀ s ∈ la, s.length = 64
theorem nowAt_len {la : List Bs} {lo : List (Int × Bs)} (h : Full64 la) (ho : LoOk lo la.length) {j : Nat} (hj : j < la.length) : (nowAt la lo j).length = 64 := by
 unfold nowAt
 cases e : getB lo (j : Int) with
 | none => rw [List.getElem?_eq_getElem hj]; exact h _ (List.getElem_mem hj)
 | some s =>
  have hm : ∀ (l : List (Int × Bs)), getB l (j : Int) = some s → ∃ k, (k, s) ∈ l := by
   intro l
   induction l with
   | nil => intro h; cases h
   | cons q t ih =>
    obtain ⟨a, u⟩ := q
    intro h
    rw [getB] at h
    split at h
    · cases h; exact ⟨a, List.mem_cons_self⟩
    · obtain ⟨k, hk⟩ := ih h; exact ⟨k, List.mem_cons_of_mem _ hk⟩
  obtain ⟨k, hk⟩ := hm lo e
  exact (ho _ hk).2
theorem put1_len {la : List Bs} {lo : List (Int × Bs)} {p : Pc} {all : Bs} {fr n : Int} (hp : PcOk fr n p) (hx : (nowAt la lo p.sec.toNat).length = 64) (ha : p.upto - p.frm ≤ all.length) : (putA1 la lo p all).length = 64 := by
 obtain ⟨h1, h2, h3, h4, h5⟩ := hp
 unfold putA1
 simp only [List.length_append, List.length_take, List.length_drop, hx]; omega
end Go.Q
namespace Go.Q
def svOk (h : Hd) : Prop := (0 ≤ h.seq ∧ h.seq < 4611686018427387903) ∧ hdR h = true
instance (h : Hd) : Decidable (svOk h) := inferInstanceAs (Decidable (_ ∧ _))
def atOk (k : Nat) (x : Int) : Prop := 0 ≤ x ∧ x < (k : Int) - 1
instance (k : Nat) (x : Int) : Decidable (atOk k x) := inferInstanceAs (Decidable (_ ∧ _))
def hdUp (h : Hd) : Hd := ⟨h.seq + 1, h.ep, h.cut, h.st, h.mrk⟩
def svN (x : Int) (h : Hd) : Int := x + (h.seq + 1) % 2
def svTry (k : Nat) (x : Int) (h : Hd) : Prop := svOk h ∧ atOk k x
instance (k : Nat) (x : Int) (h : Hd) : Decidable (svTry k x h) := inferInstanceAs (Decidable (_ ∧ _))
def svDone (p : Pw) (k : Nat) (x : Int) (h : Hd) : Prop := svTry k x h ∧ useB p = true ∧ useB (useS p) = true
instance (p : Pw) (k : Nat) (x : Int) (h : Hd) : Decidable (svDone p k x h) := inferInstanceAs (Decidable (_ ∧ _))
theorem svOk.up {h : Hd} (g : svOk h) : hdR (hdUp h) = true := by
 obtain ⟨⟨h1, h2⟩, h3⟩ := g
 have h3 := of_decide_eq_true h3
 exact decide_eq_true ⟨⟨by show 0 ≤ h.seq + 1; omega, by show h.seq + 1 ≤ _; omega⟩, h3.2⟩
theorem svN_in {k : Nat} {x : Int} {h : Hd} (g : svTry k x h) : inS (svN x h) k := by
 obtain ⟨⟨⟨h1, h2⟩, _⟩, h3, h4⟩ := g
 unfold svN
 have := Int.emod_nonneg (h.seq + 1) (show (2 : Int) ≠ 0 by decide)
 have := Int.emod_lt_of_pos (h.seq + 1) (show (0 : Int) < 2 by decide)
 exact ⟨by omega, by omega⟩
theorem fill_full {s : Bs} (h : s.length = 64) : fillS s = s := by
 unfold fillS
 rw [h, List.drop_of_length_le (by rw [blank_len]; exact Nat.le_refl _), List.append_nil]
theorem crash_one {n : Int} {s : Bs} : ∀ (keep : List Int) (la : List Bs), settleS [(n, s)] la keep = if n ∈ keep then la.set n.toNat s else la
 | [], la => by simp [settleS]
 | m :: keep, la => by
  have ih := crash_one (n := n) (s := s) keep
  by_cases g : m = n
  ·
   subst g
   have : settleS [(m, s)] la (m :: keep) = settleS [(m, s)] (la.set m.toNat s) keep := by unfold settleS; simp [getB]
   rw [this, ih, if_pos List.mem_cons_self]
   split
   · rw [List.set_set]
   · rfl
  ·
   have : settleS [(n, s)] la (m :: keep) = settleS [(n, s)] la keep := by
    unfold settleS
    rw [List.foldl_cons]
    congr 1
    have e : getB [(n, s)] m = none := by unfold getB; rw [if_neg g]; rfl
    rw [e]
   rw [this, ih]
   have e : (n ∈ m :: keep) ↔ (n ∈ keep) := by rw [List.mem_cons]; exact ⟨fun h => h.elim (fun e => absurd e.symm g) id, .inr⟩
   simp only [e]
theorem settle_none (la : List Bs) (keep : List Int) : settleS [] la keep = la := by
 unfold settleS
 induction keep generalizing la with
 | nil => rfl
 | cons n t ih => rw [List.foldl_cons]; exact ih la
section cases
variable {p : Pw} {la : List Bs} {x : Int} {h : Hd}
end cases
def sec (la : List Bs) (x : Int) : Bs := (la[x.toNat]?).getD []
theorem read_sec {p : Pw} {la : List Bs} {n : Int} (hp : p.off = false) (hn : inS n la.length) : readS p la [] n = sec la n ∧ readE p la n = 0 := by
 unfold readS readE sec
 rw [hp]
 simp [hn, getB]
theorem sec_len {la : List Bs} (h : Full64 la) {n : Int} (hn : inS n la.length) : (sec la n).length = 64 := by
 unfold sec
 have : n.toNat < la.length := by have := hn.1; have := hn.2; omega
 rw [List.getElem?_eq_getElem this]
 exact h _ (List.getElem_mem this)
def ldH (p : Pw) (la : List Bs) (x : Int) : Hd := if atOk la.length x ∧ p.off = false then (ldP (sec la x) (sec la (x + 1))).1 else hdZ
def ldE (p : Pw) (la : List Bs) (x : Int) : Int := if atOk la.length x then (if p.off = false then (ldP (sec la x) (sec la (x + 1))).2 else 6) else 1
theorem hdP_nn (s : Bs) : 0 ≤ (hdP s).1.seq ∧ (hdP s).1.seq ≤ 4611686018427387903 := by
 cases h : (hdP s).2 with
 | true => exact (of_decide_eq_true (hdP_true h).1).1
 | false => rw [hdP_false h]; exact ⟨by decide, by decide⟩
def Kp (a b : Bs) (h : Hd) : Prop := hdR h = true ∧ if h.seq % 2 = 0 then a = hdL h ∧ ((hdP b).2 = true → (hdP b).1.seq % 2 = 1 → (hdP b).1.seq < h.seq) else b = hdL h ∧ ((hdP a).2 = true → (hdP a).1.seq % 2 = 0 → (hdP a).1.seq < h.seq)
theorem Kp.ld {a b : Bs} {h : Hd} (k : Kp a b h) : ldP a b = (h, 0) := by
 obtain ⟨hr, k⟩ := k
 unfold ldP
 split at k
 ·
  rename_i he
  obtain ⟨rfl, k⟩ := k
  rw [hdP_laid hr]
  have e1 : ldStep 0 (hdZ, false) (h, true) = (h, true) := by unfold ldStep; rw [if_pos ⟨rfl, he, .inl rfl⟩]
  have e2 : ldStep 1 (h, true) (hdP b) = (h, true) := by
   unfold ldStep
   rw [if_neg]
   rintro ⟨g1, g2, g3 | g3⟩
   · cases g3
   · have := k g1 g2; simp only at g3; omega
  simp only [e1, e2]
  rfl
 ·
  rename_i he
  obtain ⟨rfl, k⟩ := k
  rw [hdP_laid hr]
  have he : h.seq % 2 = 1 := by omega
  have e : ldStep 1 (ldStep 0 (hdZ, false) (hdP a)) (h, true) = (h, true) := by
   have : ldStep 0 (hdZ, false) (hdP a) = (hdZ, false) ∨ ((hdP a).2 = true ∧ (hdP a).1.seq % 2 = 0 ∧ ldStep 0 (hdZ, false) (hdP a) = ((hdP a).1, true)) := by
    unfold ldStep
    split
    · rename_i g; exact .inr ⟨g.1, g.2.1, rfl⟩
    · exact .inl rfl
   rcases this with e | ⟨g1, g2, e⟩
   · rw [e]; unfold ldStep; rw [if_pos ⟨rfl, he, .inl rfl⟩]
   · rw [e]; unfold ldStep; rw [if_pos ⟨rfl, he, .inr (k g1 g2)⟩]
  simp only [e]
  rfl
theorem Kp.even {a b : Bs} {h h' : Hd} (k : Kp a b h) (hs : h'.seq = h.seq) (hr : hdR (hdUp h') = true) (he : (h'.seq + 1) % 2 = 0) : Kp (hdL (hdUp h')) b (hdUp h') := by
 refine ⟨hr, ?_⟩
 rw [if_pos (show (hdUp h').seq % 2 = 0 from he)]
 refine ⟨rfl, fun g1 g2 => ?_⟩
 have k2 := k.2
 rw [if_neg (by omega)] at k2
 rw [k2.1, hdP_laid k.1]
 show h.seq < h'.seq + 1
 omega
theorem Kp.odd {a b : Bs} {h h' : Hd} (k : Kp a b h) (hs : h'.seq = h.seq) (hr : hdR (hdUp h') = true) (he : (h'.seq + 1) % 2 = 1) : Kp a (hdL (hdUp h')) (hdUp h') := by
 refine ⟨hr, ?_⟩
 rw [if_neg (by show ¬ (h'.seq + 1) % 2 = 0; omega)]
 refine ⟨rfl, fun g1 g2 => ?_⟩
 have k2 := k.2
 rw [if_pos (by omega)] at k2
 rw [k2.1, hdP_laid k.1]
 show h.seq < h'.seq + 1
 omega
def KpA (la : List Bs) (x : Int) (h : Hd) : Prop := Kp (sec la x) (sec la (x + 1)) h
theorem sec_set {la : List Bs} {n m : Int} {s : Bs} (hn : inS n la.length) (hm : 0 ≤ m) : sec (la.set n.toNat s) m = if m = n then s else sec la m := by
 unfold sec
 rw [List.getElem?_set]
 have := hn.1
 have := hn.2
 by_cases e : m = n
 · rw [if_pos (by rw [e]), if_pos (by omega), if_pos e]; rfl
 · rw [if_neg (by omega), if_neg e]
theorem KpA.set {la : List Bs} {x : Int} {h h' : Hd} (k : KpA la x h) (g : svTry la.length x h') (hs : h'.seq = h.seq) : KpA (la.set (svN x h').toNat (hdL (hdUp h'))) x (hdUp h') := by
 have hn := svN_in g
 have hx := g.2.1
 have hu := g.1.up
 unfold KpA
 rw [sec_set hn hx, sec_set hn (by omega)]
 unfold svN
 by_cases he : (h'.seq + 1) % 2 = 0
 · rw [he, if_pos (by omega), if_neg (by omega)]; exact k.even hs hu he
 ·
  have he : (h'.seq + 1) % 2 = 1 := by omega
  rw [he, if_neg (by omega), if_pos rfl]; exact k.odd hs hu he
theorem KpA.ld {p : Pw} {la : List Bs} {x : Int} {h : Hd} (k : KpA la x h) (hx : atOk la.length x) (hp : p.off = false) : ldH p la x = h ∧ ldE p la x = 0 := by
 have e := Kp.ld k
 unfold ldH ldE
 rw [if_pos ⟨hx, hp⟩, if_pos hx, if_pos hp, e]
 exact ⟨rfl, rfl⟩
theorem hdP_blank : hdP blankS = (hdZ, false) := by decide +kernel
section ends
variable {p : Pw} {la : List Bs} {x : Int} {h : Hd}
theorem hdU_len (g : svOk h) : (hdL (hdUp h)).length = 64 := hdL_len g.up
end ends
def thE (p : Pw) (k : Nat) (x : Int) : Int := if atOk k x then (if p.off = true then 6 else 0) else 1
theorem thE_arg {p : Pw} {k : Nat} {x : Int} (h : x < 0 ∨ (k : Int) - 1 ≤ x) : thE p k x = 1 := if_neg (fun g => by have := g.1; have := g.2; omega)
theorem thE_off {p : Pw} {k : Nat} {x : Int} (h1 : 0 ≤ x) (h2 : x < (k : Int) - 1) (ho : p.off = true) : thE p k x = 6 := by unfold thE; rw [if_pos (show atOk k x from ⟨h1, h2⟩), if_pos ho]
theorem thE_ok {p : Pw} {k : Nat} {x : Int} (h1 : 0 ≤ x) (h2 : x < (k : Int) - 1) (ho : p.off = false) : thE p k x = 0 := by unfold thE; rw [if_pos (show atOk k x from ⟨h1, h2⟩), ho]; rfl
theorem thE_zero {p : Pw} {k : Nat} {x : Int} (h : thE p k x = 0) : atOk k x ∧ p.off = false := by
 unfold thE at h
 split at h
 ·
  rename_i g
  split at h
  · cases h
  · rename_i q; exact ⟨g, by simpa using q⟩
 · cases h
theorem ld_th {p : Pw} {la : List Bs} {x : Int} (h2 : thE p la.length x ≠ 0) : ldH p la x = hdZ ∧ ldE p la x = thE p la.length x := by
 unfold ldH ldE thE at *
 by_cases g : atOk la.length x
 ·
  rw [if_pos g] at h2 ⊢
  cases ho : p.off with
  | true => simp [g]
  | false => rw [ho] at h2; exact absurd rfl h2
 · rw [if_neg g, if_neg (fun q => g q.1), if_neg g]; exact ⟨rfl, rfl⟩
def ldG (la : List Bs) (x : Int) : Nat → Hd × Bool
 | 0 => (hdZ, false)
 | n + 1 => ldStep (n : Int) (ldG la x n) (hdP (sec la (x + (n : Int))))
def blG (la : List Bs) (x : Int) : Nat → Bool
 | 0 => true
 | n + 1 => blG la x n && blankB (sec la (x + (n : Int)))
theorem ld_two {p : Pw} {la : List Bs} {x : Int} (g : atOk la.length x) (ho : p.off = false) : ldH p la x = (if (ldG la x 2).2 = true then (ldG la x 2).1 else hdZ) ∧ ldE p la x = if (ldG la x 2).2 = true then 0 else if blG la x 2 = true then 7 else 9 := by
 have e0 : x + ((0 : Nat) : Int) = x := by omega
 unfold ldH ldE
 rw [if_pos ⟨g, ho⟩, if_pos g, if_pos ho]
 unfold ldP
 simp only [ldG, blG, e0, Bool.true_and, Bool.and_eq_true]
 show _ ∧ _
 have e1 : x + ((1 : Nat) : Int) = x + 1 := by omega
 have c0 : ((0 : Nat) : Int) = 0 := rfl
 have c1 : ((1 : Nat) : Int) = 1 := rfl
 simp only [e1, c0, c1]
 generalize ldStep 1 (ldStep 0 (hdZ, false) (hdP (sec la x))) (hdP (sec la (x + 1))) = z
 obtain ⟨z1, z2⟩ := z
 cases z2 with
 | true => exact ⟨rfl, rfl⟩
 | false =>
  simp only [Bool.false_eq_true, if_false]
  split <;> exact ⟨rfl, rfl⟩
theorem hput {h : Hd} (hr : hdR h = true) : putS 8 [h.seq, h.ep, h.cut, h.st, h.mrk] = hdN h := by
 obtain ⟨b1, b2, b3, b4, b5⟩ := of_decide_eq_true hr
 have f : ∀ y : Int, 0 ≤ y ∧ y ≤ 4611686018427387903 → fitsS y 8 = true := fun y hy => yf (b := 9223372036854775808) hy.1 (by omega) (by decide) (by decide) (by omega)
 rw [putS_yes (by decide) (by decide) (by
  intro y hy
  simp only [List.mem_cons, List.not_mem_nil, or_false] at hy
  rcases hy with rfl | rfl | rfl | rfl | rfl
  · exact f _ b1
  · exact f _ ⟨b2.1, by omega⟩
  · exact f _ b3
  · exact f _ b4
  · exact f _ b5)]
 simp [hdN, List.flatMap]
theorem hseal_len (h : Hd) : (sealS (hdN h)).length = 44 := by rw [sealS, List.length_append, hdN_len, ye]
theorem hdL_yes {h : Hd} (hr : hdR h = true) : hdL h = sealS (hdN h) ++ List.replicate 20 0 := if_pos hr
def fpV (b : Nat) (k : Nat) : Value := .pointer (some ⟨b, k, none⟩)
theorem hdP_yes {s : Bs} (h1 : s.length = 64) (h2 : hdL ⟨(takeS s 8).1, (takeS (takeS s 8).2.1 8).1, (takeS (takeS (takeS s 8).2.1 8).2.1 8).1, (takeS (takeS (takeS (takeS s 8).2.1 8).2.1 8).2.1 8).1, (takeS (takeS (takeS (takeS (takeS s 8).2.1 8).2.1 8).2.1 8).2.1 8).1⟩ = s) :
  hdP s = (⟨(takeS s 8).1, (takeS (takeS s 8).2.1 8).1, (takeS (takeS (takeS s 8).2.1 8).2.1 8).1, (takeS (takeS (takeS (takeS s 8).2.1 8).2.1 8).2.1 8).1, (takeS (takeS (takeS (takeS (takeS s 8).2.1 8).2.1 8).2.1 8).2.1 8).1⟩, true) := by
 unfold hdP
 exact if_pos ⟨h1, h2⟩
theorem hdP_no {s : Bs} (h : s.length ≠ 64 ∨ hdL ⟨(takeS s 8).1, (takeS (takeS s 8).2.1 8).1, (takeS (takeS (takeS s 8).2.1 8).2.1 8).1, (takeS (takeS (takeS (takeS s 8).2.1 8).2.1 8).2.1 8).1, (takeS (takeS (takeS (takeS (takeS s 8).2.1 8).2.1 8).2.1 8).2.1 8).1⟩ ≠ s) : hdP s = (hdZ, false) := by
 unfold hdP
 exact if_neg (fun g => h.elim (fun k => k g.1) (fun k => k g.2))
theorem hdD_yes {s : Bs} (h1 : s.length = 64) (h2 : hdR ⟨(takeS s 8).1, (takeS (s.drop 8) 8).1, (takeS (s.drop 16) 8).1, (takeS (s.drop 24) 8).1, (takeS (s.drop 32) 8).1⟩ = true) (h3 : hdL ⟨(takeS s 8).1, (takeS (s.drop 8) 8).1, (takeS (s.drop 16) 8).1, (takeS (s.drop 24) 8).1, (takeS (s.drop 32) 8).1⟩ = s) :
  hdD s = (⟨(takeS s 8).1, (takeS (s.drop 8) 8).1, (takeS (s.drop 16) 8).1, (takeS (s.drop 24) 8).1, (takeS (s.drop 32) 8).1⟩, true) := by
 unfold hdD
 exact if_pos ⟨h1, h2, h3⟩
theorem hdD_no {s : Bs} (h : s.length ≠ 64 ∨ hdR ⟨(takeS s 8).1, (takeS (s.drop 8) 8).1, (takeS (s.drop 16) 8).1, (takeS (s.drop 24) 8).1, (takeS (s.drop 32) 8).1⟩ = false ∨ hdL ⟨(takeS s 8).1, (takeS (s.drop 8) 8).1, (takeS (s.drop 16) 8).1, (takeS (s.drop 24) 8).1, (takeS (s.drop 32) 8).1⟩ ≠ s) : hdD s = (hdZ, false) := by
 unfold hdD
 refine if_neg (fun g => ?_)
 rcases h with k | k | k
 · exact k g.1
 · rw [k] at g; cases g.2.1
 · exact k g.2.2
theorem ldG_no {la : List Bs} {x : Int} {i : Nat} {bh : Hd} {fd : Bool} {rd : Bs} (h : ldG la x i = (bh, fd)) (hs : rd = sec la (x + (i : Int))) (g : (hdP rd).2 = false ∨ ¬ ((hdP rd).1.seq % 2 = (i : Int)) ∨ (fd = true ∧ ¬ bh.seq < (hdP rd).1.seq)) : ldG la x (i + 1) = (bh, fd) := by
 show ldStep _ (ldG la x i) _ = _
 rw [h, ← hs]
 unfold ldStep
 refine if_neg ?_
 rintro ⟨k1, k2, k3⟩
 rcases g with g | g | ⟨g1, g2⟩
 · rw [g] at k1; cases k1
 · exact g k2
 ·
  rcases k3 with k3 | k3
  · rw [show fd = false from k3] at g1; cases g1
  · exact g2 k3
theorem ldG_yes {la : List Bs} {x : Int} {i : Nat} {bh : Hd} {fd : Bool} {rd : Bs} (h : ldG la x i = (bh, fd)) (hs : rd = sec la (x + (i : Int))) (g1 : (hdP rd).2 = true) (g2 : (hdP rd).1.seq % 2 = (i : Int)) (g3 : fd = false ∨ bh.seq < (hdP rd).1.seq) : ldG la x (i + 1) = ((hdP rd).1, true) := by
 show ldStep _ (ldG la x i) _ = _
 rw [h, ← hs]
 exact if_pos ⟨g1, g2, g3⟩
theorem r7_end {h : Hd} {u : Bs} {j : Nat} (hr : hdR h = true) (hu : u = sealS (hdN h) ++ List.replicate j 0) (h1 : u.length ≤ 64) (h2 : 64 ≤ u.length) : hdL h = u := by
 have e := congrArg List.length hu
 rw [List.length_append, hseal_len, List.length_replicate] at e
 rw [hdL_yes hr, hu, show j = 20 by omega]
theorem hdD_nn (s : Bs) : 0 ≤ (hdD s).1.seq ∧ (hdD s).1.seq ≤ 4611686018427387903 := by rw [← hd_eq]; exact hdP_nn s
theorem putA_64 {la : List Bs} {n : Int} {s : Bs} (h : Full64 la) : Full64 (putA la n s) := by
 unfold putA
 split
 ·
  rename_i g
  intro x hx
  rcases List.mem_or_eq_of_mem_set hx with hx | rfl
  · exact h x hx
  · exact fill_len g.1
 · exact h
theorem ldD_last {s t : Bs} (hx : ¬ ((hdD s).2 = true ∧ (hdD s).1.seq % 2 = 0)) (hy : ¬ ((hdD t).2 = true ∧ (hdD t).1.seq % 2 = 1)) : ldD s t = (hdZ, if s = List.replicate 64 0 ∧ t = s then 7 else 9) := by
 have e1 : ((hdD s).2 && decide ((hdD s).1.seq % 2 = 0)) = false := by
  cases h : (hdD s).2 with
  | false => rfl
  | true => rw [Bool.true_and]; exact decide_eq_false (fun g => hx ⟨h, g⟩)
 have e2 : ((hdD t).2 && decide ((hdD t).1.seq % 2 = 1)) = false := by
  cases h : (hdD t).2 with
  | false => rfl
  | true => rw [Bool.true_and]; exact decide_eq_false (fun g => hy ⟨h, g⟩)
 unfold ldD
 simp only [e1, e2, Bool.false_eq_true, false_and, if_false]
 unfold blankB
 simp only [decide_eq_true_eq]
 split <;> rfl
def Few (p : Pw) (k : Nat) : Prop := 0 ≤ p.uses ∧ p.uses ≤ k ∧ -(k : Int) ≤ p.left ∧ p.left ≤ 9223372036854775807
theorem Few.ok {p : Pw} {k : Nat} (h : Few p k) (hk : k ≤ 1000000) : PwOk p := ⟨h.1, by have := h.2.1; omega, by have := h.2.2.1; omega, h.2.2.2⟩
theorem Few.use {p : Pw} {k : Nat} (h : Few p k) : Few (useS p) (k + 1) := by
 obtain ⟨h1, h2, h3, h4⟩ := h
 unfold useS
 split
 · exact ⟨h1, by omega, by omega, h4⟩
 · exact ⟨by show 0 ≤ p.uses + 1; omega, by show p.uses + 1 ≤ _; omega, by show _ ≤ p.left - 1; omega, by show p.left - 1 ≤ _; omega⟩
theorem Few.mono {p : Pw} {k m : Nat} (h : Few p k) (hk : k ≤ m) : Few p m := ⟨h.1, by have := h.2.1; omega, by have := h.2.2.1; omega, h.2.2.2⟩
theorem Few.back {p : Pw} {k : Nat} (h : Few p k) : Few (backS p) k := h
theorem Few.arm {p : Pw} {k : Nat} (h : Few p k) {n : Int} (hn : n ≤ 9223372036854775807) : Few (armS p n) k := ⟨h.1, h.2.1, by show _ ≤ max n 0; omega, by show max n 0 ≤ _; omega⟩
theorem Few.new : Few (Pw.mk false false 0 0) 0 := ⟨by decide, by decide, by decide, by decide⟩
theorem useB_on {p : Pw} (h : useB p = true) : (useS p).off = false := by
 unfold useB at h
 rw [Bool.and_eq_true] at h
 simpa using h.2
theorem crash_kp {la : List Bs} {now h : Hd} {lo : List (Int × Bs)} (k : KpA la 0 now) (g : svTry la.length 0 h) (hs : h.seq = now.seq) (hlo : lo = [] ∨ lo = [(svN 0 h, hdL (hdUp h))]) (keep : List Int) :
  KpA (settleS lo la keep) 0 now ∨ KpA (settleS lo la keep) 0 (hdUp h) := by
 rcases hlo with rfl | rfl
 · rw [settle_none]; exact .inl k
 ·
  rw [crash_one]
  split
  · exact .inr (k.set g hs)
  · exact .inl k
theorem set_64 {la : List Bs} {x : Int} {h : Hd} (h64 : Full64 la) (g : svOk h) : Full64 (la.set (svN x h).toNat (hdL (hdUp h))) := by
 intro s hs
 rcases List.mem_or_eq_of_mem_set hs with hs | rfl
 · exact h64 s hs
 · exact hdU_len g
end Go.Q
namespace Go.Q
structure Dv where
 p : Pw
 la : List Bs
 lo : List (Int × Bs)
abbrev Grp := List (Int × Bs)
def Dv.wr (d : Dv) (n : Int) (s : Bs) : Dv := ⟨useS d.p, d.la, writeS d.p d.la.length d.lo n s⟩
def Dv.wrE (d : Dv) (n : Int) (s : Bs) : Int := writeE d.p d.la.length n s
def Dv.sy (d : Dv) : Dv := ⟨useS d.p, syncA d.p d.la d.lo, syncO d.p d.lo⟩
def Dv.syE (d : Dv) : Int := syncE d.p
def wrs : Dv → Grp → Int × Dv
 | d, [] => (0, d)
 | d, (n, s) :: t => if d.wrE n s = 0 then wrs (d.wr n s) t else (d.wrE n s, d.wr n s)
def wrsy (d : Dv) (l : Grp) : Int × Dv := if (wrs d l).1 = 0 then ((wrs d l).2.syE, (wrs d l).2.sy) else wrs d l
def runs : Dv → List Grp → Int × Dv
 | d, [] => (0, d)
 | d, g :: t => if (wrsy d g).1 = 0 then runs (wrsy d g).2 t else wrsy d g
def GOk (g : Grp) (k : Nat) : Prop := ∀ q ∈ g, inS q.1 k ∧ q.2.length ≤ 64
def appl (g : Grp) (la : List Bs) : List Bs := g.foldl (fun la q => la.set q.1.toNat (fillS q.2)) la
theorem appl_len (g : Grp) : ∀ la : List Bs, (appl g la).length = la.length := by
 induction g with
 | nil => intro la; rfl
 | cons q t ih => intro la; show (appl t _).length = _; rw [ih, List.length_set]
theorem wr_on {d : Dv} {n : Int} {s : Bs} (h : inS n d.la.length) (hs : s.length ≤ 64) (hb : useB d.p = true) : d.wrE n s = 0 ∧ d.wr n s = ⟨useS d.p, d.la, putB d.lo n (fillS s)⟩ := by
 unfold Dv.wrE Dv.wr writeE writeS
 rw [if_pos hb, if_pos ⟨hs, h⟩, if_pos ⟨hb, hs, h⟩]
 exact ⟨rfl, rfl⟩
theorem wr_off {d : Dv} {n : Int} {s : Bs} (hb : useB d.p = false) : d.wrE n s = 6 ∧ d.wr n s = ⟨useS d.p, d.la, d.lo⟩ := by
 unfold Dv.wrE Dv.wr writeE writeS
 rw [if_neg (by rw [hb]; decide), if_neg (by rw [hb]; exact fun g => by cases g.1)]
 exact ⟨rfl, rfl⟩
theorem putB_mem {lo : List (Int × Bs)} {n : Int} {x : Bs} : ∀ {q : Int × Bs}, q ∈ putB lo n x → q = (n, x) ∨ q ∈ lo := by
 induction lo with
 | nil => intro q hq; exact .inl (List.mem_singleton.1 hq)
 | cons a t ih =>
  intro q hq
  obtain ⟨k, y⟩ := a
  unfold putB at hq
  split at hq
  ·
   rcases List.mem_cons.1 hq with rfl | hq
   · rename_i e; exact .inl (by first | rfl | rw [e])
   · exact .inr (List.mem_cons_of_mem _ hq)
  ·
   rcases List.mem_cons.1 hq with rfl | hq
   · exact .inr List.mem_cons_self
   · exact (ih hq).imp id (List.mem_cons_of_mem _)
theorem getB_some {lo : List (Int × Bs)} {n : Int} {x : Bs} (h : getB lo n = some x) : (n, x) ∈ lo := by
 induction lo with
 | nil => cases h
 | cons a t ih =>
  obtain ⟨k, y⟩ := a
  unfold getB at h
  split at h
  · rename_i e; cases h; rw [e]; exact List.mem_cons_self
  · exact List.mem_cons_of_mem _ (ih h)
def LoIn (lo : List (Int × Bs)) (g : Grp) : Prop := ∀ q ∈ lo, ∃ s, (q.1, s) ∈ g ∧ q.2 = fillS s
theorem LoIn.nil (g : Grp) : LoIn [] g := fun q hq => by cases hq
theorem LoIn.put {lo : List (Int × Bs)} {g : Grp} (h : LoIn lo g) {n : Int} {s : Bs} (hm : (n, s) ∈ g) : LoIn (putB lo n (fillS s)) g := by
 intro q hq
 rcases putB_mem hq with rfl | hq
 · exact ⟨s, hm, rfl⟩
 · exact h q hq
theorem wrs_spec (g0 : Grp) : ∀ (g : Grp) (d : Dv), GOk g d.la.length → (∀ q ∈ g, q ∈ g0) → LoOk d.lo d.la.length → LoIn d.lo g0 →
  (wrs d g).2.la = d.la ∧ LoOk (wrs d g).2.lo d.la.length ∧ LoIn (wrs d g).2.lo g0 ∧
  ((wrs d g).1 = 0 ∧ nowS d.la (wrs d g).2.lo = appl g (nowS d.la d.lo) ∨ (wrs d g).1 = 6)
 | [], d, _, _, hl, hi => ⟨rfl, hl, hi, .inl ⟨rfl, rfl⟩⟩
 | (n, s) :: t, d, hg, h0, hl, hi => by
  have hq := hg (n, s) List.mem_cons_self
  have hm := h0 (n, s) List.mem_cons_self
  cases hb : useB d.p with
  | false =>
   obtain ⟨e1, e2⟩ := wr_off (n := n) (s := s) hb
   have e : wrs d ((n, s) :: t) = (6, ⟨useS d.p, d.la, d.lo⟩) := by
    show (if d.wrE n s = 0 then _ else _) = _
    rw [e1, if_neg (by decide), e2]
   rw [e]
   exact ⟨rfl, hl, hi, .inr rfl⟩
  | true =>
   obtain ⟨e1, e2⟩ := wr_on (d := d) hq.1 hq.2 hb
   have e : wrs d ((n, s) :: t) = wrs ⟨useS d.p, d.la, putB d.lo n (fillS s)⟩ t := by
    show (if d.wrE n s = 0 then _ else _) = _
    rw [e1, if_pos rfl, e2]
   rw [e]
   have ih := wrs_spec g0 t ⟨useS d.p, d.la, putB d.lo n (fillS s)⟩ (fun q h => hg q (List.mem_cons_of_mem _ h)) (fun q h => h0 q (List.mem_cons_of_mem _ h)) (hl.put hq.1 (fill_len hq.2)) (hi.put hm)
   refine ⟨ih.1, ih.2.1, ih.2.2.1, ?_⟩
   rcases ih.2.2.2 with ⟨h1, h2⟩ | h1
   ·
    refine .inl ⟨h1, ?_⟩
    rw [h2, ← now_put (fillS s) hq.1]
    rfl
   · exact .inr h1
theorem wrsy_spec {g : Grp} {p : Pw} {la : List Bs} (hg : GOk g la.length) (ho : p.off = false) :
  ((wrsy ⟨p, la, []⟩ g).1 = 0 ∧ (wrsy ⟨p, la, []⟩ g).2.la = appl g la ∧ (wrsy ⟨p, la, []⟩ g).2.lo = [] ∧ (wrsy ⟨p, la, []⟩ g).2.p.off = false) ∨
  ((wrsy ⟨p, la, []⟩ g).1 = 6 ∧ (wrsy ⟨p, la, []⟩ g).2.la = la ∧ LoOk (wrsy ⟨p, la, []⟩ g).2.lo la.length ∧ LoIn (wrsy ⟨p, la, []⟩ g).2.lo g) := by
 obtain ⟨h1, h2, h3, h4⟩ := wrs_spec g g ⟨p, la, []⟩ hg (fun q h => h) (LoOk.nil _) (LoIn.nil _)
 unfold wrsy
 rcases h4 with ⟨h4, h5⟩ | h4
 ·
  rw [if_pos h4]
  unfold Dv.syE Dv.sy syncE syncA syncO
  cases hb : useB (wrs ⟨p, la, []⟩ g).2.p with
  | true =>
   refine .inl ⟨rfl, ?_, rfl, useB_on hb⟩
   show settleS _ _ _ = _
   rw [h1]
   show settleS (wrs ⟨p, la, []⟩ g).2.lo la (keysS (wrs ⟨p, la, []⟩ g).2.lo) = _
   rw [now_sync h2]
   show nowS la _ = _
   rw [show nowS la (wrs ⟨p, la, []⟩ g).2.lo = appl g (nowS la []) from h5, now_nil]
  | false => exact .inr ⟨rfl, h1, h2, h3⟩
 ·
  rw [if_neg (by rw [h4]; decide)]
  exact .inr ⟨h4, h1, h2, h3⟩
def Mix (la : List Bs) (g : Grp) (lb : List Bs) : Prop := lb.length = la.length ∧ ∀ j : Nat, sec lb j = sec la j ∨ ∃ s, ((j : Int), s) ∈ g ∧ sec lb j = fillS s
theorem Mix.refl (la : List Bs) (g : Grp) : Mix la g la := ⟨rfl, fun _ => .inl rfl⟩
theorem sec_set_nat {la : List Bs} {n j : Nat} {s : Bs} : sec (la.set n s) (j : Int) = if j = n ∧ n < la.length then s else sec la (j : Int) := by
 unfold sec
 rw [List.getElem?_set]
 by_cases e : j = n
 ·
  subst e
  by_cases h : j < la.length
  · rw [if_pos (by simp), if_pos (by simpa using h), if_pos ⟨rfl, h⟩]; rfl
  ·
   rw [if_pos (by simp), if_neg (by simpa using h), if_neg (fun g => h g.2)]
   rw [List.getElem?_eq_none (by simpa using h)]
 · rw [if_neg (by simpa using fun h => e h.symm), if_neg (fun g => e g.1)]
theorem crash_mix {lo : List (Int × Bs)} {g : Grp} (hi : LoIn lo g) (hn : ∀ q ∈ lo, 0 ≤ q.1) : ∀ (keep : List Int) (la : List Bs), Mix la g (settleS lo la keep)
 | [], la => Mix.refl _ _
 | m :: keep, la => by
  have e : settleS lo la (m :: keep) = settleS lo (match getB lo m with | some s => la.set m.toNat s | none => la) keep := rfl
  rw [e]
  cases h : getB lo m with
  | none => exact crash_mix hi hn keep la
  | some x =>
   have ih := crash_mix hi hn keep (la.set m.toNat x)
   have hm := getB_some h
   obtain ⟨s, hs1, hs2⟩ := hi _ hm
   have h0 : 0 ≤ m := hn _ hm
   refine ⟨by rw [ih.1, List.length_set], fun j => ?_⟩
   rcases ih.2 j with q | q
   ·
    rw [q, sec_set_nat]
    split
    ·
     rename_i g1
     exact .inr ⟨s, by rw [show (j : Int) = m by omega]; exact hs1, hs2⟩
    · exact .inl rfl
   · exact .inr q
def appls (gs : List Grp) (la : List Bs) : List Bs := gs.foldl (fun la g => appl g la) la
theorem appls_len (gs : List Grp) : ∀ la : List Bs, (appls gs la).length = la.length := by
 induction gs with
 | nil => intro la; rfl
 | cons g t ih => intro la; show (appls t _).length = _; rw [ih, appl_len]
theorem runs_spec : ∀ (gs : List Grp) (p : Pw) (la : List Bs), (∀ g ∈ gs, GOk g la.length) → p.off = false →
  ((runs ⟨p, la, []⟩ gs).1 = 0 ∧ (runs ⟨p, la, []⟩ gs).2.la = appls gs la ∧ (runs ⟨p, la, []⟩ gs).2.lo = [] ∧ (runs ⟨p, la, []⟩ gs).2.p.off = false) ∨
  ((runs ⟨p, la, []⟩ gs).1 = 6 ∧ LoOk (runs ⟨p, la, []⟩ gs).2.lo la.length ∧ ∃ pre g post, gs = pre ++ g :: post ∧ (runs ⟨p, la, []⟩ gs).2.la = appls pre la ∧ LoIn (runs ⟨p, la, []⟩ gs).2.lo g)
 | [], p, la, _, ho => .inl ⟨rfl, rfl, rfl, ho⟩
 | g :: t, p, la, hg, ho => by
  have e : runs ⟨p, la, []⟩ (g :: t) = if (wrsy ⟨p, la, []⟩ g).1 = 0 then runs (wrsy ⟨p, la, []⟩ g).2 t else wrsy ⟨p, la, []⟩ g := rfl
  rcases wrsy_spec (hg g List.mem_cons_self) ho with ⟨h1, h2, h3, h4⟩ | ⟨h1, h2, h3, h4⟩
  ·
   rw [e, if_pos h1]
   have ed : ∀ D : Dv, D.la = appl g la → D.lo = [] → D = ⟨D.p, appl g la, []⟩ := by rintro ⟨a, b, c⟩ rfl rfl; rfl
   rw [ed _ h2 h3]
   rcases runs_spec t (wrsy ⟨p, la, []⟩ g).2.p (appl g la) (fun x hx => by rw [appl_len]; exact hg x (List.mem_cons_of_mem _ hx)) h4 with q | ⟨q1, q2, pre, g1, post, q3, q4, q5⟩
   · exact .inl q
   · refine .inr ⟨q1, by rw [appl_len] at q2; exact q2, g :: pre, g1, post, by rw [q3]; rfl, q4, q5⟩
  ·
   rw [e, if_neg (by rw [h1]; decide)]
   exact .inr ⟨h1, h3, [], g, t, rfl, h2, h4⟩
end Go.Q
