/-
  Parts of a walk: what functions of the program compute, each told by a theorem (QETxF, QA, QB, QC, QD, QE, QF, QF2, QF3, QF4, QF5, QG, QH, QNums, QI, QJ, QX).
-/
import Derived.RangeFuncNested
import Derived.RangeFuncBound
import Derived.RangeFuncCalls
import Derived.RangeFuncLeaves
import Derived.RangeFuncBox
import Derived.Shelf.Abstract
import Derived.Shelf.RegionOpen
import Derived.WalkKit
import Derived.OwnWalkIn
import Derived.TacticsInMore
import Derived.LoopNIn
import Derived.LoopIn
import Derived.Test.YtcffibbdbalmjaaProg
import Derived.Tactics
import Derived.Orders
import Derived.Laws.Slices
import Derived.Laws.Append
import Derived.Laws.Rows
import Derived.Laws.CopyRow
import Derived.Laws.AppendOwn
import Derived.Laws.MakeOwn
import Derived.Laws.BytesString
import Derived.Laws.Pointers
import Derived.Laws.Concat
import Derived.RowKit3
import Derived.Great.BuildSlice
import Derived.Laws.OwnMore
import Derived.KernelRfl
import Derived.Maps.AppendAt
import Derived.Lib.Overlaps
set_option linter.unusedVariables false
set_option linter.unusedSimpArgs false
namespace Go.Proofs
open Go.RowKit Go.Shelf
attribute [local go_sem] Oper.semAt_some
/-- what has come when k rounds are over -/
def bwUpto {α : Type} (f : Nat → α) (k : Nat) : List α := (List.range k).map f
theorem bwUpto_succ {α : Type} (f : Nat → α) (k : Nat) : bwUpto f (k + 1) = bwUpto f k ++ [f k] := by simp [bwUpto, List.range_succ]
theorem bwUpto_length {α : Type} (f : Nat → α) (k : Nat) : (bwUpto f k).length = k := by simp [bwUpto]
/-- the k-th place from the end, with its number -/
def bwAt (zs : List (Int × Int)) (k : Nat) : Int × (Int × Int) := ((zs.length : Int) - 1 - (k : Int), zs[zs.length - 1 - k]?.getD (0, 0))
set_option maxRecDepth 100000 in
set_option maxHeartbeats 2000000 in
theorem bw1_in (F : Fence) (n : Nat) (h7 : F.fn 154) (hro : F.round = none) (hn : 1 ≤ n) (l Bs n₀ b off cap : Nat) (zs : List (Int × Int)) (hreach : zs.length * 16 ≤ 140737488351232) (hb : b < n₀) (J Jx : List (Int × (Int × Int)) → World → Prop)
    (hY : ∀ pre x W, J pre W → pre.length < zs.length → YieldAt F (n - 1) Try.prog l #[.int .i64 x.1, .agg #[.int .i64 x.2.1, .int .i64 x.2.2]] W fun e W' =>
      (e = .returned (.bool true) ∧ J (pre ++ [x]) W' ∧ Below n₀ W W') ∨ (e = .returned (.bool false) ∧ Jx (pre ++ [x]) W'))
    (W : World) (hBs : W.cell? ⟨Bs, 0, none⟩ = some (.slice (some ⟨b, off, none⟩) zs.length cap)) (hB0 : Bs < n₀) (hc : ∀ j, j < zs.length → W.cell? ⟨b, off + j * 2, none⟩ = some (.int .i64 (zs[j]?.getD (0, 0)).1) ∧ W.cell? ⟨b, off + j * 2 + 1, none⟩ = some (.int .i64 (zs[j]?.getD (0, 0)).2)) (h0 : J [] W) :
    CallsIn F n Try.prog 154 #[.func (.yield l) #[] #[], .pointer (some ⟨Bs, 0, none⟩)] W fun e W' => (∃ v, e = .returned v) ∧
      ((∃ ys, ys = bwUpto (bwAt zs) zs.length ∧ J ys W') ∨ (∃ pre, (∃ k, k ≤ zs.length ∧ pre = bwUpto (bwAt zs) k) ∧ Jx pre W')) := by
  refine callsIn_of_wp Try.func154 rfl h7 ?_ hro
  simp only [Try.ntmps154, List.size_toArray, List.length_cons, List.length_nil, Nat.reduceAdd, Nat.reduceSub, Array.replicate_succ, Array.replicate_zero, List.push_toArray, List.append_toArray, List.nil_append, List.cons_append]
  gi_wp2
  gi_loopw [3] (fun i wr => ∃ k : Nat, k ≤ zs.length ∧ i = .int .i64 ((zs.length : Int) - 1 - k) ∧ J (bwUpto (bwAt zs) k) wr ∧ Below n₀ W wr)
    (fun i _ => (intOf i + 1).toNat)
  case atStart => exact ⟨0, Nat.zero_le _, by simp, h0, Below.refl _ _⟩
  case round =>
    obtain ⟨k, hk, rfl, hJs, hnx⟩ := hrel
    by_cases hlt : k < zs.length
    · obtain ⟨fn, tmps, assign, body, hy, hR⟩ := hY _ (bwAt zs k) wr hJs (by rw [bwUpto_length]; exact hlt)
      dsimp only [bwAt] at hy
      have hBs' := (hnx.cell (p := ⟨Bs, 0, none⟩) hB0).trans hBs
      have hcx1 := (hnx.cell (p := ⟨b, off + (zs.length - 1 - k) * 2, none⟩) hb).trans (hc (zs.length - 1 - k) (by omega)).1
      have hcx2 := (hnx.cell (p := ⟨b, off + (zs.length - 1 - k) * 2 + 1, none⟩) hb).trans (hc (zs.length - 1 - k) (by omega)).2
      gi_wp2
      refine hR.mono ?_
      rintro e W3 (⟨rfl, hJ3, hk3⟩ | ⟨rfl, hJx3⟩)
      · gi_wp2
        go_roundw
        case rel => exact ⟨k + 1, by omega, by simp; omega, by rw [bwUpto_succ]; exact hJ3, hnx.trans hk3⟩
        case measure => simp [intOf]; omega
      · gi_wp2
        refine bodyPost_ret (results_none rfl _ _ _) rfl ?_
        exact ⟨⟨_, rfl⟩, .inr ⟨_, ⟨k + 1, by omega, (bwUpto_succ _ _).symm⟩, hJx3⟩⟩
    · obtain rfl : k = zs.length := by omega
      gi_wp2
      go_end0
      exact ⟨⟨_, rfl⟩, .inl ⟨_, rfl, hJs⟩⟩
end Go.Proofs
namespace Go.Proofs
open Go.RowKit Go.Shelf
attribute [local go_sem] Oper.semAt_some
set_option maxRecDepth 100000 in
set_option maxHeartbeats 1000000 in
theorem bw1_nil_in (F : Fence) (n : Nat) (h7 : F.fn 154) (hro : F.round = none) (l Bs : Nat) (J : List (Int × (Int × Int)) → World → Prop) (W : World) {p : Option Addr} {cap : Nat} (hBs : W.cell? ⟨Bs, 0, none⟩ = some (.slice p 0 cap)) (h0 : J [] W) :
    CallsIn F n Try.prog 154 #[.func (.yield l) #[] #[], .pointer (some ⟨Bs, 0, none⟩)] W fun e W' => (∃ v, e = .returned v) ∧ J [] W' := by
  refine callsIn_of_wp Try.func154 rfl h7 ?_ hro
  simp only [Try.ntmps154, List.size_toArray, List.length_cons, List.length_nil, Nat.reduceAdd, Nat.reduceSub, Array.replicate_succ, Array.replicate_zero, List.push_toArray, List.append_toArray, List.nil_append, List.cons_append]
  gi_wp2
  gi_loopw [3] (fun i wr => i = .int .i64 (-1) ∧ J [] wr) (fun _ _ => 0)
  case atStart => exact ⟨rfl, h0⟩
  case round =>
    obtain ⟨rfl, hJs⟩ := hrel
    gi_wp2
    go_end0
    exact ⟨⟨_, rfl⟩, hJs⟩
set_option maxHeartbeats 1000000 in
theorem bw_in (F : Fence) (n : Nat) (h5 : F.fn 117) (hro : F.round = none) (a : Option Addr) (len cap : Nat) (w : World) :
    CallsIn F n Try.prog 117 #[.slice a len cap] w fun e w' => e = .returned (.func (.func 154) #[] #[.pointer (some ⟨w.heap.size, 0, none⟩)]) ∧ w' = w.alloc (.cells #[.slice a len cap] 33) := by
  refine callsIn_of_wp Try.func117 rfl h5 ?_ hro
  simp only [Try.ntmps117, List.size_toArray, List.length_cons, List.length_nil, Nat.reduceAdd, Nat.reduceSub, Array.replicate_succ, Array.replicate_zero, List.push_toArray, List.append_toArray, List.nil_append, List.cons_append]
  gi_wp2
  go_ret
  exact ⟨rfl, rfl⟩
/-- a slice value holds places, in a block below n₀; or it is nil -/
def bwHolds (n₀ : Nat) (W : World) (sv : Value) (zs : List (Int × Int)) : Prop :=
  ((∃ p cap, sv = .slice p 0 cap) ∧ zs = []) ∨ ∃ b off cap, sv = .slice (some ⟨b, off, none⟩) zs.length cap ∧ b < n₀ ∧ ∀ j, j < zs.length → W.cell? ⟨b, off + j * 2, none⟩ = some (.int .i64 (zs[j]?.getD (0, 0)).1) ∧ W.cell? ⟨b, off + j * 2 + 1, none⟩ = some (.int .i64 (zs[j]?.getD (0, 0)).2)
theorem bwHolds.below {n₀ : Nat} {A B : World} (h : Below n₀ A B) {sv : Value} {zs : List (Int × Int)} : bwHolds n₀ A sv zs → bwHolds n₀ B sv zs
  | .inl e => .inl e
  | .inr ⟨b, off, cap, e, hb, hc⟩ => .inr ⟨b, off, cap, e, hb, fun j hj => ⟨(h.cell (p := ⟨b, off + j * 2, none⟩) hb).trans (hc j hj).1, (h.cell (p := ⟨b, off + j * 2 + 1, none⟩) hb).trans (hc j hj).2⟩⟩
theorem bw_stops (F : Fence) (n : Nat) (h7 : F.fn 154) (hro : F.round = none) (hn : 1 ≤ n) (Bs n₀ : Nat) (sv : Value) (zs : List (Int × Int)) (hreach : zs.length * 16 ≤ 140737488351232) (w : World) (hBs : Bs < n₀) (hn₀ : n₀ ≤ w.heap.size)
    (hc : w.cell? ⟨Bs, 0, none⟩ = some sv) (hI : bwHolds n₀ w sv zs) :
    SeqStopsK F n Try.prog 154 #[.pointer (some ⟨Bs, 0, none⟩)] (fun x : Int × (Int × Int) => #[.int .i64 x.1, .agg #[.int .i64 x.2.1, .int .i64 x.2.2]]) (Below n₀) (fun ys => ys = bwUpto (bwAt zs) zs.length) (fun pre => ∃ k, k ≤ zs.length ∧ pre = bwUpto (bwAt zs) k) zs.length w := fun l J Jx W hW _ _ hY h0 => by
  have hc' := (hW.cell (p := ⟨Bs, 0, none⟩) (Nat.lt_of_lt_of_le hBs hn₀)).trans hc
  rcases hI.below (hW.mono hn₀) with ⟨⟨p, cap, rfl⟩, rfl⟩ | ⟨b, off, cap, rfl, hb, hcs⟩
  · exact (bw1_nil_in F n h7 hro l Bs J W hc' h0).mono fun e W' ⟨he, hj⟩ => ⟨he, .inl ⟨_, rfl, hj⟩⟩
  · exact bw1_in F n h7 hro hn l Bs n₀ b off cap zs hreach hb J Jx hY W hc' hBs hcs h0
end Go.Proofs
namespace Go.Q

/-- A heaplet: some blocks with what they hold. -/
abbrev Hp := Nat → Option Obj
def Hp.sub (h : Hp) (w : World) : Prop := ∀ b o, h b = some o → w.heap[b]? = some o
def Hp.dis (h k : Hp) : Prop := ∀ b, h b = none ∨ k b = none
def Hp.one (b : Nat) (o : Obj) : Hp := fun x => if x = b then some o else none
def Hp.emp : Hp := fun _ => none
def Hp.of (w : World) : Hp := fun b => w.heap[b]?

theorem Hp.dis.symm {h k : Hp} (d : Hp.dis h k) : Hp.dis k h := fun b => (d b).symm
theorem Hp.one_at (b : Nat) (o : Obj) : Hp.one b o b = some o := by simp [Hp.one]
theorem Hp.one_some {b x : Nat} {o o' : Obj} (h : Hp.one b o x = some o') : x = b ∧ o' = o := by
  unfold Hp.one at h; split at h
  · exact ⟨by assumption, by simpa using h.symm⟩
  · simp at h

/-- The world has these heaplets, apart from each other; its streams are E's. -/
structure Has0 (E w : World) (hs : List Hp) : Prop where
  os : w.os = E.os
  tape : w.tape = E.tape
  output : w.output = E.output
  dj : hs.Pairwise Hp.dis
  sub : ∀ h ∈ hs, Hp.sub h w
/-- The same of lists of heaplets, one behind the other. -/
def Has (E w : World) (ss : List (List Hp)) : Prop := Has0 E w ss.flatten

theorem Has0.at {E w : World} {hs : List Hp} (H : Has0 E w hs) {h : Hp} (hh : h ∈ hs) {b : Nat} {o : Obj} (hb : h b = some o) : w.heap[b]? = some o := H.sub h hh b o hb

theorem Has0.lt {E w : World} {hs : List Hp} (H : Has0 E w hs) {h : Hp} (hh : h ∈ hs) {b : Nat} {o : Obj} (hb : h b = some o) : b < w.heap.size :=
  (Array.getElem?_eq_some_iff.1 (H.at hh hb)).1

theorem Has0.weak {E w : World} {hs ks : List Hp} (H : Has0 E w hs) (h : ks.Sublist hs) : Has0 E w ks :=
  ⟨H.os, H.tape, H.output, H.dj.sublist h, fun k hk => H.sub k (h.subset hk)⟩

theorem Has0.perm {E w : World} {hs ks : List Hp} (H : Has0 E w hs) (h : ks.Perm hs) : Has0 E w ks :=
  ⟨H.os, H.tape, H.output, (h.pairwise_iff (fun d => Hp.dis.symm d)).2 H.dj, fun k hk => H.sub k (h.subset hk)⟩

theorem Has0.drew {E w : World} {hs : List Hp} (H : Has0 E w hs) (n : Nat) : Has0 E { w with drawn := n } hs := ⟨H.os, H.tape, H.output, H.dj, H.sub⟩

/-- A new block. -/
theorem Has0.alloc {E w : World} {hs : List Hp} (H : Has0 E w hs) (o : Obj) : Has0 E { w with heap := w.heap.push o } (Hp.one w.heap.size o :: hs) := by
  refine ⟨H.os, H.tape, H.output, ?_, ?_⟩
  · refine List.pairwise_cons.2 ⟨fun k hk b => ?_, H.dj⟩
    cases hkb : k b with
    | none => exact .inr rfl
    | some o' =>
      have := H.lt hk hkb
      refine .inl ?_
      unfold Hp.one; rw [if_neg (by omega)]
  · intro k hk b o' hb
    show (w.heap.push o)[b]? = some o'
    rcases List.mem_cons.1 hk with rfl | hk
    · obtain ⟨rfl, rfl⟩ := Hp.one_some hb
      simp
    · rw [Array.getElem?_push, if_neg (by have := H.lt hk hb; omega)]
      exact H.at hk hb

/-- The front heaplets are written anew. -/
theorem Has0.write {E w w' : World} {an an' hs : List Hp} (H : Has0 E w (an ++ hs)) (os : w'.os = w.os) (tape : w'.tape = w.tape) (output : w'.output = w.output)
    (hdj : an'.Pairwise Hp.dis) (hdom : ∀ b, (∀ h ∈ an, h b = none) → (∀ h ∈ an', h b = none) ∨ w.heap.size ≤ b) (hnew : ∀ h ∈ an', Hp.sub h w')
    (hkeep : ∀ b, b < w.heap.size → (∀ h ∈ an, h b = none) → w'.heap[b]? = w.heap[b]?) : Has0 E w' (an' ++ hs) := by
  have hd := List.pairwise_append.1 H.dj
  have mr : ∀ k ∈ hs, k ∈ an ++ hs := fun k hk => List.mem_append_right _ hk
  have hno : ∀ k ∈ hs, ∀ b o, k b = some o → ∀ h ∈ an, h b = none := fun k hk b o hb h hh => by
    rcases hd.2.2 h hh k hk b with e | e
    · exact e
    · rw [hb] at e; cases e
  refine ⟨os.trans H.os, tape.trans H.tape, output.trans H.output, List.pairwise_append.2 ⟨hdj, hd.2.1, fun h hh k hk b => ?_⟩, ?_⟩
  · cases hkb : k b with
    | none => exact .inr rfl
    | some o =>
      rcases hdom b (hno k hk b o hkb) with e | e
      · exact .inl (e h hh)
      · have := H.lt (mr k hk) hkb; omega
  · intro k hk b o hb
    rcases List.mem_append.1 hk with hk | hk
    · exact hnew k hk b o hb
    · rw [hkeep b (H.lt (mr k hk) hb) (hno k hk b o hb)]; exact H.at (mr k hk) hb

theorem Has.start (w : World) : Has w w [[Hp.of w]] := ⟨rfl, rfl, rfl, by simp, by
  intro h hh; simp at hh; subst hh; exact fun b o h => h⟩
theorem Has.drew {E w : World} {ss : List (List Hp)} (H : Has E w ss) (n : Nat) : Has E { w with drawn := n } ss := Has0.drew H n
theorem Has.alloc {E w : World} {ss : List (List Hp)} (H : Has E w ss) (o : Obj) : Has E { w with heap := w.heap.push o } ([Hp.one w.heap.size o] :: ss) := Has0.alloc H o
theorem Has.drop {E w : World} {s : List Hp} {ss : List (List Hp)} (H : Has E w (s :: ss)) : Has E w ss := Has0.weak H (by simp)
theorem sublist_flatten {ts ss : List (List Hp)} (h : ts.Sublist ss) : ts.flatten.Sublist ss.flatten := by
  induction h with
  | slnil => exact .refl _
  | cons a _ ih => simp only [List.flatten_cons]; exact ih.trans (List.sublist_append_right _ _)
  | cons_cons a _ ih => simp only [List.flatten_cons]; exact List.Sublist.append (.refl _) ih
theorem Has.sub {E w : World} {ss ts : List (List Hp)} (H : Has E w ss) (h : ts.Sublist ss) : Has E w ts := Has0.weak H (sublist_flatten h)
/-- The k-th comes to the front. -/
def front (k : Nat) (ss : List (List Hp)) : List (List Hp) := match ss[k]? with | some s => s :: ss.eraseIdx k | none => ss
theorem perm_front (k : Nat) (ss : List (List Hp)) : (front k ss).Perm ss := by
  unfold front
  split
  · rename_i h hk
    have hlt : k < ss.length := (List.getElem?_eq_some_iff.1 hk).1
    have he : ss[k] = h := (List.getElem?_eq_some_iff.1 hk).2
    rw [List.eraseIdx_eq_take_drop_succ]
    have h2 : ss = ss.take k ++ h :: ss.drop (k + 1) := by
      rw [← he, ← List.drop_eq_getElem_cons hlt, List.take_append_drop]
    exact List.perm_middle.symm.trans (by rw [← h2])
  · exact .refl _
theorem Has.perm {E w : World} {ss ts : List (List Hp)} (H : Has E w ss) (h : ts.Perm ss) : Has E w ts := Has0.perm H h.flatten
theorem Has.front {E w : World} {ss ts : List (List Hp)} (H : Has E w ss) (k : Nat) (h : Q.front k ss = ts) : Has E w ts := h ▸ H.perm (perm_front k ss)
/-- Two lists are told as one, one as two. -/
theorem Has.glue {E w : World} {s t : List Hp} {ss : List (List Hp)} (H : Has E w (s :: t :: ss)) : Has E w ((s ++ t) :: ss) := by
  unfold Has at *; simpa using H
theorem Has.cut {E w : World} {s t : List Hp} {ss : List (List Hp)} (H : Has E w ((s ++ t) :: ss)) : Has E w (s :: t :: ss) := by
  unfold Has at *; simpa using H
/-- All behind the first k is told as one. -/
theorem Has.flat {E w : World} {ss : List (List Hp)} (H : Has E w ss) (k : Nat) : Has E w (ss.take k ++ [(ss.drop k).flatten]) := by
  unfold Has at *
  have e : (ss.take k ++ [(ss.drop k).flatten]).flatten = ss.flatten := by
    rw [List.flatten_append, List.flatten_cons, List.flatten_nil, List.append_nil, ← List.flatten_append, List.take_append_drop]
  rw [e]; exact H
theorem seg_sub {ss : List (List Hp)} (k : Nat) {s : List Hp} (h : ss[k]? = some s) : s ⊆ ss.flatten := fun _ hx => List.mem_flatten.2 ⟨s, List.mem_of_getElem? h, hx⟩
theorem Has.at {E w : World} {ss : List (List Hp)} (H : Has E w ss) {h : Hp} (hh : h ∈ ss.flatten) {b : Nat} {o : Obj} (hb : h b = some o) : w.heap[b]? = some o := Has0.at H hh hb

/-- What had to be shown of one operation. -/
def OK (P : Program) (o : Oper) (ρ : Operand → Value) (w : World) (K : Value → World → Prop) : Prop :=
  match (execOp ρ o).run P w with
  | .ok (.value v) w' => K v w'
  | .ok .skip w' => K undef w'
  | .ok (.enter f args) w' => Calls P f args w' fun e w'' => ∃ v, e = .returned v ∧ K v w''
  | _ => False

theorem OK.wp {P : Program} {o : Oper} {a : Act} {w : World} {next : Act → World → Prop} {Q : Exit → Act → World → Prop}
    (h : OK P o a.eval w fun v w' => next (a.put o.dst v) w') : o.wp P a w next Q := by
  unfold OK at h
  unfold Oper.wp
  generalize (execOp a.eval o).run P w = r at h
  cases r with
  | ok n w' =>
    cases n <;> simp only [Oper.upon] at h ⊢ <;> first | exact h | exact h.elim | skip
    exact h.mono fun e w'' ⟨v, he, hk⟩ => by subst he; exact hk
  | halt x w' => exact h.elim

theorem OK.mono {P : Program} {o : Oper} {ρ : Operand → Value} {w : World} {K K' : Value → World → Prop} (h : OK P o ρ w K) (hk : ∀ v w', K v w' → K' v w') : OK P o ρ w K' := by
  unfold OK at *
  generalize (execOp ρ o).run P w = r at *
  cases r with
  | ok n w' =>
    cases n <;> simp only at h ⊢ <;> first | exact hk _ _ h | exact h.elim | skip
    exact h.mono fun e w'' ⟨v, he, hh⟩ => ⟨v, he, hk _ _ hh⟩
  | halt x w' => exact h.elim

/-- A frame without deferred calls: N slots, told by a function. -/
def upd (r : Nat → Value) (d : Nat) (v : Value) : Nat → Value := fun t => bif Nat.beq t d then v else r t
def base (l : List Value) : Nat → Value := fun t => l.getD t undef
def fr (N : Nat) (r : Nat → Value) : Act := ⟨((List.range N).map r).toArray, []⟩
def ev (N : Nat) (r : Nat → Value) : Operand → Value
  | .tmp t => bif Nat.blt t N then r t else undef
  | .const v => v
  | .global g => .pointer (some ⟨g, 0, none⟩)
  | .func f => .func (.func f) #[] #[]
theorem act_ext {a b : Act} (h : a.tmps = b.tmps) (h' : a.defers = b.defers) : a = b := by cases a; cases b; cases h; cases h'; rfl
theorem upd_same (r : Nat → Value) (d : Nat) (v : Value) : upd r d v d = v := by simp [upd]
theorem upd_ne (r : Nat → Value) {d t : Nat} (v : Value) (h : t ≠ d) : upd r d v t = r t := by
  have : Nat.beq t d = false := by cases e : Nat.beq t d <;> simp_all
  simp [upd, this]
theorem fr_at (N : Nat) (r : Nat → Value) (t : Nat) : (fr N r).tmps[t]? = if t < N then some (r t) else none := by
  simp only [fr, List.getElem?_toArray, List.getElem?_map]
  by_cases h : t < N
  · rw [List.getElem?_range h, if_pos h]; rfl
  · rw [List.getElem?_eq_none (by simpa using h), if_neg h]; rfl
theorem fr_congr {N : Nat} {r r' : Nat → Value} (h : ∀ t, t < N → r t = r' t) : fr N r = fr N r' := by
  unfold fr
  rw [List.map_congr_left (g := r') (fun t ht => h t (List.mem_range.1 ht))]
theorem fr_put (N : Nat) (r : Nat → Value) (d : Nat) (v : Value) : (fr N r).put (some d) v = fr N (upd r d v) := by
  have hs : (fr N r).tmps.size = N := by simp [fr]
  have : ((fr N r).put (some d) v).tmps = (fr N (upd r d v)).tmps := by
    apply Array.ext_getElem?
    intro t
    rw [fr_at]
    simp only [Act.put, Array.getElem?_setIfInBounds, fr_at, hs]
    by_cases hd : d = t
    · subst hd; rw [if_pos rfl, upd_same]
    · rw [if_neg hd, upd_ne _ _ (Ne.symm hd)]
  exact act_ext this rfl
theorem fr_put_none (N : Nat) (r : Nat → Value) (v : Value) : (fr N r).put none v = fr N r := rfl
theorem fr_eval (N : Nat) (r : Nat → Value) : (fr N r).eval = ev N r := by
  funext x
  cases x with
  | tmp t =>
    simp only [Act.eval, ev, Array.getD_eq_getD_getElem?, fr_at]
    by_cases h : t < N
    · have : Nat.blt t N = true := by simpa using h
      rw [if_pos h, this]; rfl
    · have : Nat.blt t N = false := by
        cases e : Nat.blt t N with
        | false => rfl
        | true => exact absurd (by simpa using e) h
      rw [if_neg h, this]; rfl
  | _ => rfl
/-- A frame written out. -/
theorem fr_lit {N : Nat} {r : Nat → Value} {l : List Value} (h : (List.range N).map r = l) : fr N r = fr N (base l) := by
  refine fr_congr fun t ht => ?_
  unfold base
  rw [← h, List.getD_eq_getElem?_getD, List.getElem?_map, List.getElem?_range ht]; rfl

section steps
variable {P : Program} {ops : Array Oper} {Q : Exit → Act → World → Prop} {w : World} {rest : List Oper} {N : Nat} {r : Nat → Value}

theorem s_op {d : Nat} {op : Op} {T : TypeId} {pos : String} {after : Array Edge}
    (h : OK P ⟨some d, op, T, pos, after, none⟩ (ev N r) w fun v w' => wpList P ops Q rest (fr N (upd r d v)) w') :
    wpList P ops Q (⟨some d, op, T, pos, after, none⟩ :: rest) (fr N r) w := by
  unfold wpList
  rw [if_pos (by simp [Region.wanted])]
  refine .inl (OK.wp ?_)
  rw [fr_eval]
  exact h.mono fun v w' hk => by rw [fr_put]; exact hk

theorem s_eff {op : Op} {T : TypeId} {pos : String} {after : Array Edge}
    (h : OK P ⟨none, op, T, pos, after, none⟩ (ev N r) w fun _ w' => wpList P ops Q rest (fr N r) w') :
    wpList P ops Q (⟨none, op, T, pos, after, none⟩ :: rest) (fr N r) w := by
  unfold wpList
  rw [if_pos (by simp [Region.wanted])]
  refine .inl (OK.wp ?_)
  rw [fr_eval]
  exact h.mono fun v w' hk => hk

/-- the slot that operation g writes -/
def dstOf : List Oper → Nat → Option Tmp
  | [], _ => none
  | o :: _, 0 => o.dst
  | _ :: l, g + 1 => dstOf l g
theorem dstOf_spec : ∀ (ops : List Oper) (g : Nat) {t : Nat}, dstOf ops g = some t → ∃ og, ops.toArray[g]? = some og ∧ og.dst = some t
  | [], _, _, h => by cases h
  | o :: _, 0, t, h => ⟨o, by simp, h⟩
  | _ :: l, g + 1, t, h => by
    obtain ⟨og, h1, h2⟩ := dstOf_spec l g h
    exact ⟨og, by simpa using h1, h2⟩

theorem wanted_fr {d : Option Nat} {op : Op} {T : TypeId} {pos : String} {after : Array Edge} {g : Nat} {b b' : Bool} {og : Oper} {t : Nat}
    (hg : ops[g]? = some og) (ht : og.dst = some t) (hv : ev N r (.tmp t) = .bool b') : Region.wanted ⟨d, op, T, pos, after, some (g, b)⟩ (yielded ops (fr N r).tmps) = (b' == b) := by
  have hv' : (fr N r).tmps[t]? = some (.bool b') := by
    rw [fr_at]
    simp only [ev] at hv
    cases e : Nat.blt t N with
    | true => rw [e] at hv; rw [if_pos (by simpa using e)]; exact congrArg some hv
    | false => rw [e] at hv; cases hv
  simp only [Region.wanted, yielded, hg, ht, Option.bind_some, hv']
  cases b <;> cases b' <;> rfl

/-- An operation under a guard that lets it. -/
theorem s_on {ops : List Oper} {d : Nat} {op : Op} {T : TypeId} {pos : String} {after : Array Edge} {g : Nat} {b : Bool} (t : Nat)
    (hgt : dstOf ops g = some t) (hv : ev N r (.tmp t) = .bool b)
    (h : OK P ⟨some d, op, T, pos, after, some (g, b)⟩ (ev N r) w fun v w' => wpList P ops.toArray Q rest (fr N (upd r d v)) w') :
    wpList P ops.toArray Q (⟨some d, op, T, pos, after, some (g, b)⟩ :: rest) (fr N r) w := by
  obtain ⟨og, hg, ht⟩ := dstOf_spec ops g hgt
  unfold wpList
  rw [if_pos (by rw [wanted_fr hg ht hv]; simp)]
  refine .inl (OK.wp ?_)
  rw [fr_eval]
  exact h.mono fun v w' hk => by rw [fr_put]; exact hk

/-- An operation under a guard that doesn't let it. -/
theorem s_off {ops : List Oper} {d : Nat} {op : Op} {T : TypeId} {pos : String} {after : Array Edge} {g : Nat} {b b' : Bool} (t : Nat)
    (hgt : dstOf ops g = some t) (hv : ev N r (.tmp t) = .bool b') (hne : (b' == b) = false)
    (h : wpList P ops.toArray Q rest (fr N (upd r d undef)) w) :
    wpList P ops.toArray Q (⟨some d, op, T, pos, after, some (g, b)⟩ :: rest) (fr N r) w := by
  obtain ⟨og, hg, ht⟩ := dstOf_spec ops g hgt
  unfold wpList
  rw [if_neg (by rw [wanted_fr hg ht hv, hne]; simp), fr_put]
  exact h

theorem s_nil (h : Q .normal (fr N r) w) : wpList P ops Q [] (fr N r) w := h
end steps

section ops
variable {P : Program} {ρ : Operand → Value} {w : World} {K : Value → World → Prop} {dst : Option Tmp} {T : TypeId} {pos : String} {after : Array Edge} {g : Option (Nat × Bool)}

theorem o_move {x : Operand} {v : Value} (hx : ρ x = v) (h : K v w) : OK P ⟨dst, .move x, T, pos, after, g⟩ ρ w K := by subst hx; exact h
theorem o_assign {x : Operand} {v : Value} (hx : ρ x = v) (h : K v w) : OK P ⟨dst, .assign x, T, pos, after, g⟩ ρ w K := by subst hx; exact h
theorem o_pick {c x y : Operand} {b : Bool} {u v : Value} (hc : ρ c = .bool b) (hx : ρ x = u) (hy : ρ y = v) (h : K (if b then u else v) w) :
    OK P ⟨dst, .pick c x y, T, pos, after, g⟩ ρ w K := by
  subst hx hy
  show OK P _ ρ w K
  unfold OK
  simp only [execOp, hc, asBool, bind, pure, Sem.bind, Sem.run]
  exact h
theorem o_nilCheck {x : Operand} {a : Addr} (hx : ρ x = .pointer (some a)) (h : K (.pointer (some a)) w) : OK P ⟨dst, .nilCheck x, T, pos, after, g⟩ ρ w K := by
  unfold OK; simp only [execOp, hx, pure, Sem.run]; exact h
theorem o_not {t : TypeId} {x : Operand} {b : Bool} (hx : ρ x = .bool b) (h : K (.bool (!b)) w) : OK P ⟨dst, .unOp .not t x, T, pos, after, g⟩ ρ w K := by
  unfold OK; simp only [execOp, hx, Op.unary, bind, pure, Sem.bind, Sem.run]; exact h
theorem o_extract {x : Operand} {i : Nat} {vs : Array Value} {v : Value} (hx : ρ x = .tuple vs) (hv : vs[i]? = some v) (h : K v w) : OK P ⟨dst, .extract x i, T, pos, after, g⟩ ρ w K := by
  unfold OK; simp only [execOp, hx, Instr.extract, hv, bind, pure, Sem.bind, Sem.run]; exact h

theorem run_eqGuard_int {op : BinOp} {t : TypeId} {x y : Operand} {k k' : IntKind} {a b : Int} : (eqGuard op t x y (.int k a) (.int k' b)) = .pure () := by
  cases op <;> rfl

theorem o_bin {op : BinOp} {t u : TypeId} {x y : Operand} {k : IntKind} {a b : Int} {v : Value} (hx : ρ x = .int k a) (hy : ρ y = .int k b)
    (hr : (binOp op t (.int k a) (.int k b)).run P w = .ok v w) (h : K v w) : OK P ⟨dst, .binOp op t x y u, T, pos, after, g⟩ ρ w K := by
  unfold OK
  simp only [execOp, hx, hy, run_eqGuard_int]
  have e : (Sem.bind (Sem.bind (Sem.pure ()) fun _ => binOp op t (.int k a) (.int k b)) fun v => Sem.pure (Next.value v)).run P w = .ok (.value v) w := by
    show (Sem.bind (binOp op t (.int k a) (.int k b)) fun v => Sem.pure (Next.value v)).run P w = _
    rw [show (Sem.bind (binOp op t (.int k a) (.int k b)) fun v => Sem.pure (Next.value v)) = ((binOp op t (.int k a) (.int k b)) >>= fun v => pure (Next.value v)) from rfl]
    rw [Sem.run_bind, hr]; rfl
  show match (Sem.bind (Sem.bind (Sem.pure ()) fun _ => binOp op t (.int k a) (.int k b)) fun v => Sem.pure (Next.value v)).run P w with | .ok (.value v) w' => K v w' | .ok .skip w' => K undef w' | .ok (.enter f args) w' => _ | _ => False
  rw [e]; exact h
end ops
end Go.Q
namespace Go.Q

section ops
variable {P : Program} {ρ : Operand → Value} {w : World} {K : Value → World → Prop} {dst : Option Tmp} {T : TypeId} {pos : String} {after : Array Edge} {g : Option (Nat × Bool)}

theorem OK.val {o : Oper} {v : Value} {w' : World} (hr : (execOp ρ o).run P w = .ok (.value v) w') (h : K v w') : OK P o ρ w K := by
  unfold OK; rw [hr]; exact h
theorem OK.skip {o : Oper} {w' : World} (hr : (execOp ρ o).run P w = .ok .skip w') (h : K undef w') : OK P o ρ w K := by
  unfold OK; rw [hr]; exact h
theorem run_v {s : Sem Value} {v : Value} {w' : World} (h : s.run P w = .ok v w') : (do pure (Next.value (← s)) : Sem Next).run P w = .ok (.value v) w' := by
  rw [Sem.run_bind, h]; rfl
theorem run_u {s : Sem Unit} {w' : World} (h : s.run P w = .ok () w') : (do s; pure Next.skip : Sem Next).run P w = .ok .skip w' := by
  rw [Sem.run_bind, h]; rfl

/-- whole numbers -/
theorem o_add {t u : TypeId} {x y : Operand} {k : IntKind} {a b c : Int} (hx : ρ x = .int k a) (hy : ρ y = .int k b) (hc : k.wrap (a + b) = c) (h : K (.int k c) w) :
    OK P ⟨dst, .binOp .add t x y u, T, pos, after, g⟩ ρ w K := o_bin hx hy (by simp [binOp, Op.intArith, hc]) h
theorem o_sub {t u : TypeId} {x y : Operand} {k : IntKind} {a b c : Int} (hx : ρ x = .int k a) (hy : ρ y = .int k b) (hc : k.wrap (a - b) = c) (h : K (.int k c) w) :
    OK P ⟨dst, .binOp .sub t x y u, T, pos, after, g⟩ ρ w K := o_bin hx hy (by simp [binOp, Op.intArith, hc]) h
theorem o_mul {t u : TypeId} {x y : Operand} {k : IntKind} {a b c : Int} (hx : ρ x = .int k a) (hy : ρ y = .int k b) (hc : k.wrap (a * b) = c) (h : K (.int k c) w) :
    OK P ⟨dst, .binOp .mul t x y u, T, pos, after, g⟩ ρ w K := o_bin hx hy (by simp [binOp, Op.intArith, hc]) h
theorem o_quo {t u : TypeId} {x y : Operand} {k : IntKind} {a b c : Int} (hx : ρ x = .int k a) (hy : ρ y = .int k b) (h0 : b ≠ 0) (hc : k.wrap (a.tdiv b) = c) (h : K (.int k c) w) :
    OK P ⟨dst, .binOp .quo t x y u, T, pos, after, g⟩ ρ w K := o_bin hx hy (by simp [binOp, Op.intDiv, h0, hc]) h
theorem o_rem {t u : TypeId} {x y : Operand} {k : IntKind} {a b c : Int} (hx : ρ x = .int k a) (hy : ρ y = .int k b) (h0 : b ≠ 0) (hc : a.tmod b = c) (h : K (.int k c) w) :
    OK P ⟨dst, .binOp .rem t x y u, T, pos, after, g⟩ ρ w K := o_bin hx hy (by simp [binOp, Op.intDiv, h0, hc]) h
theorem o_and {t u : TypeId} {x y : Operand} {k : IntKind} {a b c : Int} (hx : ρ x = .int k a) (hy : ρ y = .int k b)
    (hc : k.wrap ((BitVec.ofInt k.bits a &&& BitVec.ofInt k.bits b).toNat : Int) = c) (h : K (.int k c) w) :
    OK P ⟨dst, .binOp .and t x y u, T, pos, after, g⟩ ρ w K := o_bin hx hy (by simp only [binOp, Op.intBits]; rw [if_neg (by simp)]; simp only [Sem.run_pure]; rw [hc]) h
theorem o_or {t u : TypeId} {x y : Operand} {k : IntKind} {a b c : Int} (hx : ρ x = .int k a) (hy : ρ y = .int k b)
    (hc : k.wrap ((BitVec.ofInt k.bits a ||| BitVec.ofInt k.bits b).toNat : Int) = c) (h : K (.int k c) w) :
    OK P ⟨dst, .binOp .or t x y u, T, pos, after, g⟩ ρ w K := o_bin hx hy (by simp only [binOp, Op.intBits]; rw [if_neg (by simp)]; simp only [Sem.run_pure]; rw [hc]) h
theorem o_xor {t u : TypeId} {x y : Operand} {k : IntKind} {a b c : Int} (hx : ρ x = .int k a) (hy : ρ y = .int k b)
    (hc : k.wrap ((BitVec.ofInt k.bits a ^^^ BitVec.ofInt k.bits b).toNat : Int) = c) (h : K (.int k c) w) :
    OK P ⟨dst, .binOp .xor t x y u, T, pos, after, g⟩ ρ w K := o_bin hx hy (by simp only [binOp, Op.intBits]; rw [if_neg (by simp)]; simp only [Sem.run_pure]; rw [hc]) h

theorem run_eqGuard_shift {op : BinOp} {t : TypeId} {x y : Operand} {u v : Value} (h : op = .shl ∨ op = .shr ∨ op = .add ∨ op = .lss ∨ op = .leq ∨ op = .gtr ∨ op = .geq) : eqGuard op t x y u v = .pure () := by
  rcases h with rfl | rfl | rfl | rfl | rfl | rfl | rfl <;> rfl
theorem o_shr {t u : TypeId} {x y : Operand} {k yk : IntKind} {a b c : Int} (hx : ρ x = .int k a) (hy : ρ y = .int yk b) (h0 : 0 ≤ b)
    (hc : a.fdiv (2 ^ (min b.toNat k.bits)) = c) (h : K (.int k c) w) : OK P ⟨dst, .binOp .shr t x y u, T, pos, after, g⟩ ρ w K := by
  refine OK.val (run_v ?_) h
  simp only [hx, hy, run_eqGuard_shift (op := .shr) (by simp), binOp, Op.shift]
  rw [if_neg (by omega)]
  simp [hc]
theorem o_shl {t u : TypeId} {x y : Operand} {k yk : IntKind} {a b c : Int} (hx : ρ x = .int k a) (hy : ρ y = .int yk b) (h0 : 0 ≤ b)
    (hc : k.wrap (a * 2 ^ (min b.toNat k.bits)) = c) (h : K (.int k c) w) : OK P ⟨dst, .binOp .shl t x y u, T, pos, after, g⟩ ρ w K := by
  refine OK.val (run_v ?_) h
  simp only [hx, hy, run_eqGuard_shift (op := .shl) (by simp), binOp, Op.shift]
  rw [if_neg (by omega)]
  simp [hc]

theorem o_lss {t u : TypeId} {x y : Operand} {k : IntKind} {a b : Int} (hx : ρ x = .int k a) (hy : ρ y = .int k b) (h : K (.bool (decide (a < b))) w) :
    OK P ⟨dst, .binOp .lss t x y u, T, pos, after, g⟩ ρ w K := o_bin hx hy (by simp [binOp, Op.intCmp]) h
theorem o_leq {t u : TypeId} {x y : Operand} {k : IntKind} {a b : Int} (hx : ρ x = .int k a) (hy : ρ y = .int k b) (h : K (.bool (decide (a ≤ b))) w) :
    OK P ⟨dst, .binOp .leq t x y u, T, pos, after, g⟩ ρ w K := o_bin hx hy (by simp [binOp, Op.intCmp]) h
theorem o_gtr {t u : TypeId} {x y : Operand} {k : IntKind} {a b : Int} (hx : ρ x = .int k a) (hy : ρ y = .int k b) (h : K (.bool (decide (b < a))) w) :
    OK P ⟨dst, .binOp .gtr t x y u, T, pos, after, g⟩ ρ w K := o_bin hx hy (by simp [binOp, Op.intCmp]) h
theorem o_geq {t u : TypeId} {x y : Operand} {k : IntKind} {a b : Int} (hx : ρ x = .int k a) (hy : ρ y = .int k b) (h : K (.bool (decide (b ≤ a))) w) :
    OK P ⟨dst, .binOp .geq t x y u, T, pos, after, g⟩ ρ w K := o_bin hx hy (by simp [binOp, Op.intCmp]) h
theorem o_eql {t u : TypeId} {x y : Operand} {k : IntKind} {a b : Int} (hx : ρ x = .int k a) (hy : ρ y = .int k b) (h : K (.bool (decide (a = b))) w) :
    OK P ⟨dst, .binOp .eql t x y u, T, pos, after, g⟩ ρ w K := o_bin hx hy (by
      have e : (a == b) = decide (a = b) := rfl
      simp only [binOp, Op.intCmp]; rw [if_neg (by simp)]; simp [e]) h
theorem o_neq {t u : TypeId} {x y : Operand} {k : IntKind} {a b : Int} (hx : ρ x = .int k a) (hy : ρ y = .int k b) (h : K (.bool (decide (a ≠ b))) w) :
    OK P ⟨dst, .binOp .neq t x y u, T, pos, after, g⟩ ρ w K := o_bin hx hy (by
      have e : (a != b) = decide (a ≠ b) := by by_cases h : a = b <;> simp [h]
      simp only [binOp, Op.intCmp]; rw [if_neg (by simp)]; simp [e]) h

/-- '==' and '!=' beside whole numbers -/
theorem run_equal {t : TypeId} {x y : Value} {b : Bool} (h : (Op.equalIn (9999 + 1) t x y).run P w = .ok b w) : (Op.equal t x y).run P w = .ok b w := h
theorem o_eqx {t u : TypeId} {x y : Operand} {p q : Value} {b : Bool} (hx : ρ x = p) (hy : ρ y = q) (hg : (eqGuard .eql t x y p q).run P w = .ok () w)
    (hb : binOp .eql t p q = (do pure (.bool (← Op.equal t p q)))) (he : (Op.equalIn (9999 + 1) t p q).run P w = .ok b w) (h : K (.bool b) w) :
    OK P ⟨dst, .binOp .eql t x y u, T, pos, after, g⟩ ρ w K := by
  subst hx hy
  refine OK.val (run_v ?_) h
  rw [Sem.run_bind, hg, Result.andThen_ok, hb, Sem.run_bind, run_equal he]; rfl
theorem o_nex {t u : TypeId} {x y : Operand} {p q : Value} {b : Bool} (hx : ρ x = p) (hy : ρ y = q) (hg : (eqGuard .neq t x y p q).run P w = .ok () w)
    (hb : binOp .neq t p q = (do pure (.bool (!(← Op.equal t p q))))) (he : (Op.equalIn (9999 + 1) t p q).run P w = .ok b w) (h : K (.bool (!b)) w) :
    OK P ⟨dst, .binOp .neq t x y u, T, pos, after, g⟩ ρ w K := by
  subst hx hy
  refine OK.val (run_v ?_) h
  rw [Sem.run_bind, hg, Result.andThen_ok, hb, Sem.run_bind, run_equal he]; rfl

theorem q_bool {t : TypeId} {a b : Bool} (ht : P.underlying t = some .bool) (d : Nat) : (Op.equalIn (d + 1) t (.bool a) (.bool b)).run P w = .ok (a == b) w := by
  simp [Op.equalIn, run_underlying ht]
theorem q_pnil {t e : TypeId} {p : Option Addr} (ht : P.underlying t = some (.pointer e)) (d : Nat) : (Op.equalIn (d + 1) t (.pointer p) (.pointer none)).run P w = .ok p.isNone w := by
  cases p <;> simp [Op.equalIn, run_underlying ht]
theorem q_snil {t e : TypeId} {p : Option Addr} {n c l0 c0 : Nat} (ht : P.underlying t = some (.slice e)) (d : Nat) :
    (Op.equalIn (d + 1) t (.slice p n c) (.slice none l0 c0)).run P w = .ok p.isNone w := by
  cases p <;> simp [Op.equalIn, run_underlying ht]
theorem q_mnil {t k e : TypeId} {p : Option Nat} (ht : P.underlying t = some (.map k e)) (d : Nat) :
    (Op.equalIn (d + 1) t (.map p) (.map none)).run P w = .ok p.isNone w := by
  cases p <;> simp [Op.equalIn, run_underlying ht]
theorem o_eqlb {t u : TypeId} {x y : Operand} {a b : Bool} (ht : P.underlying t = some .bool) (hx : ρ x = .bool a) (hy : ρ y = .bool b) (h : K (.bool (a == b)) w) :
    OK P ⟨dst, .binOp .eql t x y u, T, pos, after, g⟩ ρ w K := o_eqx hx hy rfl rfl (q_bool ht 9999) h
theorem o_neqb {t u : TypeId} {x y : Operand} {a b : Bool} (ht : P.underlying t = some .bool) (hx : ρ x = .bool a) (hy : ρ y = .bool b) (h : K (.bool (!(a == b))) w) :
    OK P ⟨dst, .binOp .neq t x y u, T, pos, after, g⟩ ρ w K := o_nex hx hy rfl rfl (q_bool ht 9999) h
theorem o_pnil {t u e : TypeId} {x y : Operand} {p : Option Addr} (ht : P.underlying t = some (.pointer e)) (hx : ρ x = .pointer p) (hy : ρ y = .pointer none)
    (h : K (.bool p.isNone) w) : OK P ⟨dst, .binOp .eql t x y u, T, pos, after, g⟩ ρ w K := o_eqx hx hy rfl rfl (q_pnil ht 9999) h
theorem o_pnnil {t u e : TypeId} {x y : Operand} {p : Option Addr} (ht : P.underlying t = some (.pointer e)) (hx : ρ x = .pointer p) (hy : ρ y = .pointer none)
    (h : K (.bool (!p.isNone)) w) : OK P ⟨dst, .binOp .neq t x y u, T, pos, after, g⟩ ρ w K := o_nex hx hy rfl rfl (q_pnil ht 9999) h
theorem o_snil {t u e : TypeId} {x y : Operand} {p : Option Addr} {n c l0 c0 : Nat} (ht : P.underlying t = some (.slice e)) (hx : ρ x = .slice p n c) (hy : ρ y = .slice none l0 c0)
    (h : K (.bool p.isNone) w) : OK P ⟨dst, .binOp .eql t x y u, T, pos, after, g⟩ ρ w K := o_eqx hx hy rfl rfl (q_snil ht 9999) h

/-- texts, as lists of bytes -/
def S (l : List UInt8) : Value := .string ⟨l.toArray⟩
theorem S_of (s : ByteArray) : Value.string s = S s.data.toList := by simp [S]
theorem bytes_toList (l : List UInt8) : (⟨l.toArray⟩ : ByteArray).toList = l := by
  have key : ∀ (n i : Nat) (r : List UInt8), l.length - i = n → i ≤ l.length → ByteArray.toList.loop (⟨l.toArray⟩ : ByteArray) i r = r.reverse ++ l.drop i := by
    intro n
    induction n with
    | zero =>
      intro i r hn hi
      unfold ByteArray.toList.loop
      have hs : (⟨l.toArray⟩ : ByteArray).size = l.length := by simp [ByteArray.size]
      rw [if_neg (by rw [hs]; omega), List.drop_eq_nil_of_le (by omega)]; simp
    | succ n ih =>
      intro i r hn hi
      unfold ByteArray.toList.loop
      have hs : (⟨l.toArray⟩ : ByteArray).size = l.length := by simp [ByteArray.size]
      have hlt : i < l.length := by omega
      rw [if_pos (by rw [hs]; omega), ih (i + 1) _ (by omega) (by omega), List.drop_eq_getElem_cons hlt]
      simp [ByteArray.get!, hlt]
  have := key l.length 0 [] (by omega) (by omega)
  simpa [ByteArray.toList] using this

theorem bytes_size (l : List UInt8) : (⟨l.toArray⟩ : ByteArray).size = l.length := by simp [ByteArray.size]
theorem bytes_append (a b : List UInt8) : (⟨a.toArray⟩ : ByteArray) ++ ⟨b.toArray⟩ = ⟨(a ++ b).toArray⟩ := by
  apply ByteArray.ext; simp
theorem o_sadd {t u : TypeId} {x y : Operand} {a b : List UInt8} (hx : ρ x = S a) (hy : ρ y = S b) (hl : a.length + b.length ≤ 9223372036854775807) (h : K (S (a ++ b)) w) :
    OK P ⟨dst, .binOp .add t x y u, T, pos, after, g⟩ ρ w K := by
  refine OK.val (run_v ?_) h
  simp only [hx, hy, S]
  have := run_string_add_sum (P := P) (w := w) ⟨a.toArray⟩ ⟨b.toArray⟩ (by rw [bytes_size, bytes_size]; exact hl)
  rw [bytes_append] at this
  exact this
theorem o_scmp {op : BinOp} {t u : TypeId} {x y : Operand} {a b : List UInt8} {r : Bool} (hx : ρ x = S a) (hy : ρ y = S b)
    (hr : (binOp op t (S a) (S b)).run P w = .ok (.bool r) w) (hg : eqGuard op t x y (S a) (S b) = .pure ()) (h : K (.bool r) w) :
    OK P ⟨dst, .binOp op t x y u, T, pos, after, g⟩ ρ w K := by
  refine OK.val (run_v ?_) h
  rw [hx, hy, hg]
  exact hr
theorem o_seql {t u : TypeId} {x y : Operand} {a b : List UInt8} (hx : ρ x = S a) (hy : ρ y = S b) (h : K (.bool (decide (a = b))) w) :
    OK P ⟨dst, .binOp .eql t x y u, T, pos, after, g⟩ ρ w K := o_scmp hx hy (by
      show (Op.stringOp .eql _ _).run P w = _
      simp only [Op.stringOp, bytes_toList]
      have e : (a == b) = decide (a = b) := by by_cases h : a = b <;> simp [h]
      rw [e]; rfl) rfl h
theorem o_sneq {t u : TypeId} {x y : Operand} {a b : List UInt8} (hx : ρ x = S a) (hy : ρ y = S b) (h : K (.bool (decide (a ≠ b))) w) :
    OK P ⟨dst, .binOp .neq t x y u, T, pos, after, g⟩ ρ w K := o_scmp hx hy (by
      show (Op.stringOp .neq _ _).run P w = _
      simp only [Op.stringOp, bytes_toList]
      have e : (!(a == b)) = decide (a ≠ b) := by by_cases h : a = b <;> simp [h]
      rw [e]; rfl) rfl h
theorem o_slss {t u : TypeId} {x y : Operand} {a b : List UInt8} (hx : ρ x = S a) (hy : ρ y = S b) (h : K (.bool (Op.bytesLess a b)) w) :
    OK P ⟨dst, .binOp .lss t x y u, T, pos, after, g⟩ ρ w K := o_scmp hx hy (by
      show (Op.stringOp .lss _ _).run P w = _
      simp only [Op.stringOp, bytes_toList]; rfl) rfl h
theorem o_sleq {t u : TypeId} {x y : Operand} {a b : List UInt8} (hx : ρ x = S a) (hy : ρ y = S b) (h : K (.bool (Op.bytesLess a b || a == b)) w) :
    OK P ⟨dst, .binOp .leq t x y u, T, pos, after, g⟩ ρ w K := o_scmp hx hy (by
      show (Op.stringOp .leq _ _).run P w = _
      simp only [Op.stringOp, bytes_toList]; rfl) rfl h
/-- len -/
theorem o_call_builtin {b : Builtin} {args : Array Operand} {ts : Array TypeId} {v : Value} {w' : World}
    (hr : (builtin b ts T (args.map fun | .const _ => true | _ => false) (args.map ρ)).run P w = .ok (.value v) w') (h : K v w') :
    OK P ⟨dst, .call ⟨.builtin b, args, ts⟩, T, pos, after, g⟩ ρ w K := by
  refine OK.val ?_ h
  show (Sem.bind (Sem.bind (Sem.pure _) _) _).run P w = _
  exact hr
theorem o_slen {x : Operand} {t : TypeId} {a : List UInt8} (ht : P.underlying t = some .string) (hx : ρ x = S a) (h : K (.int .i64 a.length) w) :
    OK P ⟨dst, .call ⟨.builtin .len, #[x], #[t]⟩, T, pos, after, g⟩ ρ w K := by
  refine o_call_builtin ?_ h
  simp [hx, S, builtin, Builtin.len_, run_underlying ht, goInt, bytes_size]
theorem o_len {x : Operand} {t e : TypeId} {p : Option Addr} {n c : Nat} (ht : P.underlying t = some (.slice e)) (hx : ρ x = .slice p n c) (h : K (.int .i64 n) w) :
    OK P ⟨dst, .call ⟨.builtin .len, #[x], #[t]⟩, T, pos, after, g⟩ ρ w K := by
  refine o_call_builtin ?_ h
  simp [hx, builtin, Builtin.len_, run_underlying ht, goInt]
theorem o_cap {x : Operand} {t e : TypeId} {p : Option Addr} {n c : Nat} (ht : P.underlying t = some (.slice e)) (hx : ρ x = .slice p n c) (h : K (.int .i64 c) w) :
    OK P ⟨dst, .call ⟨.builtin .cap, #[x], #[t]⟩, T, pos, after, g⟩ ρ w K := by
  refine o_call_builtin ?_ h
  simp [hx, builtin, Builtin.cap_, run_underlying ht, goInt]
theorem o_max {x y : Operand} {t u : TypeId} {k k' : IntKind} {a b : Int} (hx : ρ x = .int k a) (hy : ρ y = .int k' b) (h : K (.int k (max a b)) w) :
    OK P ⟨dst, .call ⟨.builtin .max, #[x, y], #[t, u]⟩, T, pos, after, g⟩ ρ w K := by
  refine o_call_builtin ?_ h
  have e : (if b > a then b else a) = max a b := by split <;> omega
  simp [hx, hy, builtin, Builtin.max_, Builtin.max2, e]
theorem o_min {x y : Operand} {t u : TypeId} {k k' : IntKind} {a b : Int} (hx : ρ x = .int k a) (hy : ρ y = .int k' b) (h : K (.int k (min a b)) w) :
    OK P ⟨dst, .call ⟨.builtin .min, #[x, y], #[t, u]⟩, T, pos, after, g⟩ ρ w K := by
  refine o_call_builtin ?_ h
  have e : (if b < a then b else a) = min a b := by split <;> omega
  simp [hx, hy, builtin, Builtin.min_, Builtin.min2, e]
/-- a number of another kind -/
theorem o_conv {s t : TypeId} {x : Operand} {k k' : IntKind} {a c : Int} {ds : TypeDesc} (hs : P.underlying s = some ds) (ht : P.underlying t = some (.int k)) (hx : ρ x = .int k' a)
    (hc : k.wrap a = c) (h : K (.int k c) w) : OK P ⟨dst, .convert s t x, T, pos, after, g⟩ ρ w K := by
  refine OK.val (run_v ?_) h
  rw [hx]
  rw [← hc]
  cases ds <;> simp [convert, run_underlying hs, run_underlying ht, Conv.intToInt]
/-- s[i] of a text -/
theorem o_sidx {t : TypeId} {x y : Operand} {a : List UInt8} {k : IntKind} {i : Int} {b : UInt8} (ht : P.underlying t = some .string) (hx : ρ x = S a) (hy : ρ y = .int k i)
    (h0 : 0 ≤ i) (hb : a[i.toNat]? = some b) (h : K (.int .u8 b.toNat) w) : OK P ⟨dst, .index t x y, T, pos, after, g⟩ ρ w K := by
  refine OK.val (run_v ?_) h
  have e : (⟨a.toArray⟩ : ByteArray)[i.toNat]? = some b := by
    obtain ⟨hlt, hv⟩ := List.getElem?_eq_some_iff.1 hb
    have hs : i.toNat < (⟨a.toArray⟩ : ByteArray).size := by rw [bytes_size]; exact hlt
    rw [getElem?_pos (⟨a.toArray⟩ : ByteArray) i.toNat hs, ByteArray.getElem_eq_getElem_data]
    simpa using hv
  simp [hx, hy, S, Instr.index, asIntOf, run_underlying ht, h0, e]
end ops
end Go.Q
namespace Go.Q

/-- From a place on these cells stand. -/
def CellsAt (L : List Hp) (b off : Nat) (cs : List Value) : Prop := ∃ h ∈ L, ∃ c T f, h b = some (.cells c T f) ∧ ∀ j v, cs[j]? = some v → c[off + j]? = some v

theorem CellsAt.sub {L : List Hp} {b off : Nat} {cs ds : List Value} {k : Nat} (H : CellsAt L b off cs) (hd : ∀ j v, ds[j]? = some v → cs[k + j]? = some v) : CellsAt L b (off + k) ds := by
  obtain ⟨h, hh, c, T, f, hb, hc⟩ := H
  exact ⟨h, hh, c, T, f, hb, fun j v hv => by rw [Nat.add_assoc]; exact hc _ _ (hd j v hv)⟩
theorem CellsAt.mono {L M : List Hp} {b off : Nat} {cs : List Value} (H : CellsAt L b off cs) (hs : L ⊆ M) : CellsAt M b off cs := by
  obtain ⟨h, hh, r⟩ := H; exact ⟨h, hs hh, r⟩
theorem CellsAt.one {b off : Nat} {c : Array Value} {T : TypeId} {f : Nat × Nat} {cs : List Value} (h : (c.toList.drop off).take cs.length = cs) : CellsAt [Hp.one b (.cells c T f)] b off cs :=
  ⟨_, List.mem_singleton.2 rfl, c, T, f, Hp.one_at _ _, fun j v hv => by
    have hj : j < cs.length := (List.getElem?_eq_some_iff.1 hv).1
    rw [← h, List.getElem?_take, if_pos hj, List.getElem?_drop] at hv
    simpa using hv⟩
theorem Has.cell {E w : World} {ss : List (List Hp)} (H : Has E w ss) {L : List Hp} (hL : L ⊆ ss.flatten) {b off j : Nat} {cs : List Value} {v : Value} (hc : CellsAt L b off cs) (hj : cs[j]? = some v) :
    w.cell? ⟨b, off + j, none⟩ = some v := by
  obtain ⟨h, hh, c, T, f, hb, hcc⟩ := hc
  rw [cell_of_row w b (off + j) c T f (H.at (hL hh) hb)]
  exact hcc j v hj

theorem add_lit (b off j : Nat) : (⟨b, off, none⟩ : Addr).add j = ⟨b, off + j, none⟩ := by unfold Addr.add; split <;> simp_all

/-- A type's zero value, cells and bytes. -/
def TI (P : Program) (t : TypeId) (z : Value) (sz by_ : Nat) : Prop := ∃ i, P.info? t = some i ∧ i.zero = some z ∧ i.size = sz ∧ i.bytes = by_
theorem TI.mk {P : Program} {t : TypeId} {z : Value} {sz by_ : Nat} (h : (P.info? t).map (fun i => (i.zero, i.size, i.bytes)) = some (some z, sz, by_)) : TI P t z sz by_ := by
  unfold TI
  cases hi : P.info? t with
  | none => simp [hi] at h
  | some i => simp [hi] at h; exact ⟨i, rfl, h⟩
theorem TI.size {P : Program} {t : TypeId} {z : Value} {sz by_ : Nat} (h : TI P t z sz by_) (w : World) : (sizeOf t).run P w = .ok sz w := by
  obtain ⟨i, hi, _, rfl, _⟩ := h
  simp [sizeOf, typeInfo, hi]

def aggB : TypeDesc → Bool
  | .struct _ | .array _ _ => true
  | _ => false
theorem run_isAgg {P : Program} {t : TypeId} {d : TypeDesc} (h : P.underlying t = some d) (w : World) : (isAgg t).run P w = .ok (aggB d) w := by
  unfold isAgg
  rw [Sem.run_bind, run_underlying h]
  cases d <;> rfl

section ops
variable {P : Program} {ρ : Operand → Value} {E w : World} {ss : List (List Hp)} {K : Value → World → Prop} {dst : Option Tmp} {T : TypeId} {pos : String} {after : Array Edge} {g : Option (Nat × Bool)}

theorem o_load1 {t : TypeId} {x : Operand} {d : TypeDesc} {L : List Hp} {b off : Nat} {v : Value} (ht : P.underlying t = some d) (hd : aggB d = false)
    (hx : ρ x = .pointer (some ⟨b, off, none⟩)) (H : Has E w ss) (hL : L ⊆ ss.flatten) (hc : CellsAt L b off [v]) (hK : K v w) :
    OK P ⟨dst, .load t x, T, pos, after, g⟩ ρ w K := by
  refine OK.val (run_v ?_) hK
  have e := H.cell (j := 0) (v := v) hL hc rfl
  simp only [hx, Instr.loadAt, Instr.sureAddr, Sem.run_bind, Sem.run_pure, Result.andThen_ok, loadVar, run_isAgg ht, hd]
  simp only [Bool.false_eq_true, if_false, run_load]
  rw [show (⟨b, off, none⟩ : Addr) = ⟨b, off + 0, none⟩ from rfl, e]

theorem o_loadN {t : TypeId} {x : Operand} {d : TypeDesc} {L : List Hp} {b off : Nat} {cs : List Value} {z : Value} {by_ : Nat} (ht : P.underlying t = some d) (hd : aggB d = true)
    (hi : TI P t z cs.length by_) (hx : ρ x = .pointer (some ⟨b, off, none⟩)) (H : Has E w ss) (hL : L ⊆ ss.flatten) (hc : CellsAt L b off cs) (hK : K (.agg cs.toArray) w) :
    OK P ⟨dst, .load t x, T, pos, after, g⟩ ρ w K := by
  refine OK.val (run_v ?_) hK
  simp only [hx, Instr.loadAt, Instr.sureAddr, Sem.run_bind, Sem.run_pure, Result.andThen_ok, loadVar, run_isAgg ht, hd, if_true, hi.size]
  rw [run_loadCells_list (P := P) (w := w) ⟨b, off, none⟩ cs (fun j v hv => by rw [add_lit]; exact H.cell hL hc hv)]
  rfl

/-- the address of a field -/
theorem o_fieldAddr {s : TypeId} {x : Operand} {f b off k : Nat} (hr : ∀ w, (Instr.fieldAt s (.pointer (some ⟨b, off, none⟩)) f).run P w = .ok (.pointer (some ⟨b, k, none⟩)) w)
    (hx : ρ x = .pointer (some ⟨b, off, none⟩)) (hK : K (.pointer (some ⟨b, k, none⟩)) w) : OK P ⟨dst, .fieldAddr s x f, T, pos, after, g⟩ ρ w K :=
  OK.val (run_v (by rw [hx]; exact hr w)) hK

/-- any quiet operation that is reckoned by sight -/
theorem o_sight {op : Op} {v : Value} (hr : ∀ w, (execOp ρ ⟨dst, op, T, pos, after, g⟩).run P w = .ok (.value v) w) (hK : K v w) : OK P ⟨dst, op, T, pos, after, g⟩ ρ w K :=
  OK.val (hr w) hK

/-- a new block of a value -/
theorem o_box {e : TypeId} {x : Operand} {v : Value} {cs : Array Value} (hx : ρ x = v) (hcs : v.cells = cs) (H : Has E w ss)
    (hK : ∀ b w', Has E w' ([Hp.one b (.cells cs e (0, 0))] :: ss) → K (.pointer (some ⟨b, 0, none⟩)) w') : OK P ⟨dst, .box e x, T, pos, after, g⟩ ρ w K := by
  subst hcs hx
  exact OK.val (w' := { w with heap := w.heap.push (.cells (ρ x).cells e) }) (run_v (by simp [Instr.box, newVar, newRow])) (hK _ _ (H.alloc _))
theorem o_alloc {e : TypeId} {z : Value} {sz by_ : Nat} {cs : Array Value} (hi : TI P e z sz by_) (hcs : z.cells = cs) (H : Has E w ss)
    (hK : ∀ b w', Has E w' ([Hp.one b (.cells cs e (0, 0))] :: ss) → K (.pointer (some ⟨b, 0, none⟩)) w') : OK P ⟨dst, .alloc e, T, pos, after, g⟩ ρ w K := by
  subst hcs
  obtain ⟨i, hi, hz, _⟩ := hi
  exact OK.val (w' := { w with heap := w.heap.push (.cells z.cells e) }) (run_v (by simp [Instr.alloc, zeroValue, typeInfo, hi, hz, newVar, newRow])) (hK _ _ (H.alloc _))
theorem o_makeMap {t : TypeId} (H : Has E w ss) (hK : ∀ b w', Has E w' ([Hp.one b (.map #[] 0)] :: ss) → K (.map (some b)) w') : OK P ⟨dst, .makeMap t none, T, pos, after, g⟩ ρ w K :=
  OK.val (w' := { w with heap := w.heap.push (.map #[] 0) }) (run_v (by simp [Instr.makeMap])) (hK _ _ (H.alloc _))
theorem o_buildSlice {t e : TypeId} {len : Nat} {parts : Array (Nat × Operand)} {ps : Array (Nat × Value)} {cells : Array Value} {z : Value} {sz by_ : Nat}
    (ht : P.underlying t = some (.slice e)) (hi : TI P e z sz by_) (hsmall : ¬ len * sz > 2 ^ 24) (hp : parts.map (fun (i, x) => (i, ρ x)) = ps)
    (hf : Instr.fill (fun i => some (i * sz, sz)) ((Array.range (len * sz)).map (z.cells[· % z.cells.size]!)) ps.toList = some cells) (H : Has E w ss)
    (hK : ∀ b w', Has E w' ([Hp.one b (.cells cells e (0, 0))] :: ss) → K (.slice (some ⟨b, 0, none⟩) len len) w') : OK P ⟨dst, .buildSlice t len parts, T, pos, after, g⟩ ρ w K := by
  obtain ⟨i, hi, hz, hsz, _⟩ := hi
  subst hsz
  refine OK.val (w' := { w with heap := w.heap.push (.cells cells e) }) (run_v ?_) (hK _ _ (H.alloc _))
  rw [show (parts.map fun (i, x) => (i, ρ x)) = ps from hp]
  by_cases h0 : len * i.size = 0
  · rw [h0] at hf
    simp only [Instr.buildSlice, Sem.run_bind, run_underlying ht, sizeOf, typeInfo, run_program, hi, Result.andThen_ok, Sem.run_pure, h0]
    simp [newRow, Array.range_zero'] at *
    simp [hf]
  · exact run_buildSlice w t e len ps cells i z ht hi hz hsmall h0 hf

/-- a call of a function of the program, or of a function value -/
theorem o_call {c : Operand} {f : FuncId} {first captured : Array Value} {args : Array Operand} {ts : Array TypeId} {vs : Array Value} {fn : Func} {R : Ending → World → Prop} (hf : P.funcs[f]? = some fn)
    (hb : fn.body.isNone = false) (hn : (fn.name == "runtime.NumGoroutine") = false) (hv : ρ c = .func (.func f) first captured) (hargs : first ++ args.map ρ ++ captured = vs) (hc : Calls P f vs w R)
    (hK : ∀ e w', R e w' → ∃ v, e = .returned v ∧ K v w') : OK P ⟨dst, .call ⟨.value c, args, ts⟩, T, pos, after, g⟩ ρ w K := by
  have hr : (execOp ρ ⟨dst, .call ⟨.value c, args, ts⟩, T, pos, after, g⟩).run P w = .ok (.enter f vs) w := by
    have hn' : fn.name ≠ "runtime.NumGoroutine" := by simpa using hn
    have hb' : fn.body ≠ none := by intro e; simp [e] at hb
    simp [execOp, resolve, hv, Deferred.ofValue, invoke, callFunc, hf, hn', hb', ← hargs]
  unfold OK
  rw [hr]
  exact hc.mono hK

/-- A row of n elements of sz cells each. -/
def Sl (L : List Hp) (sz : Nat) (v : Value) (n : Nat) (cs : List Value) : Prop :=
  ∃ p cap, v = .slice p n cap ∧ n ≤ cap ∧ cap ≤ 9223372036854775807 ∧ cs.length = n * sz ∧ (0 < n → ∃ b off, p = some ⟨b, off, none⟩ ∧ CellsAt L b off cs)

theorem Sl.mono {L M : List Hp} {sz : Nat} {v : Value} {n : Nat} {cs : List Value} (H : Sl L sz v n cs) (hs : L ⊆ M) : Sl M sz v n cs := by
  obtain ⟨p, cap, e, a, b, c, d⟩ := H
  exact ⟨p, cap, e, a, b, c, fun h => let ⟨b, off, e, hc⟩ := d h; ⟨b, off, e, hc.mono hs⟩⟩
theorem Sl.form {L : List Hp} {sz : Nat} {v : Value} {n : Nat} {cs : List Value} (H : Sl L sz v n cs) : ∃ p cap, v = .slice p n cap := let ⟨p, cap, e, _⟩ := H; ⟨p, cap, e⟩

theorem o_lenS {x : Operand} {t e : TypeId} {L : List Hp} {sz n : Nat} {v : Value} {cs : List Value} (ht : P.underlying t = some (.slice e)) (hx : ρ x = v) (hs : Sl L sz v n cs) (hK : K (.int .i64 n) w) :
    OK P ⟨dst, .call ⟨.builtin .len, #[x], #[t]⟩, T, pos, after, g⟩ ρ w K := by
  obtain ⟨p, cap, rfl, _⟩ := hs
  exact o_len ht hx hK

theorem o_indexAddr {x y : Operand} {t e : TypeId} {L : List Hp} {sz n by_ : Nat} {v z : Value} {cs : List Value} {k : IntKind} {i : Int} (ht : P.underlying t = some (.slice e)) (hi : TI P e z sz by_)
    (hx : ρ x = v) (hs : Sl L sz v n cs) (hy : ρ y = .int k i) (h0 : 0 ≤ i) (h1 : i < n) (hK : ∀ b off, CellsAt L b off ((cs.drop (i.toNat * sz)).take sz) → K (.pointer (some ⟨b, off, none⟩)) w) :
    OK P ⟨dst, .indexAddr t x y, T, pos, after, g⟩ ρ w K := by
  obtain ⟨p, cap, rfl, hnc, hcm, hl, hp⟩ := hs
  obtain ⟨b, off, rfl, hc⟩ := hp (by omega)
  refine OK.val (run_v (v := .pointer (some ⟨b, off + i.toNat * sz, none⟩)) ?_) (hK _ _ (hc.sub ?_))
  · rw [hx, hy]
    simp [Instr.indexAt, asIntOf, run_underlying ht, h0, h1, hi.size, add_lit]
  · intro j v hv
    rw [List.getElem?_take] at hv
    split at hv
    · rw [List.getElem?_drop] at hv; exact hv
    · cases hv

theorem drop_take_map {α : Type} (f : α → Value) (l : List α) (i : Nat) (hi : i < l.length) : ((l.map f).drop (i * 1)).take 1 = [f l[i]] := by
  rw [Nat.mul_one, ← List.map_drop, List.drop_eq_getElem_cons hi]; rfl

/-- a store of one cell into the front block -/
theorem o_store1 {x y : Operand} {t : TypeId} {b off : Nat} {c c' : Array Value} {U : TypeId} {v z : Value} {by_ : Nat} (hi : TI P t z 1 by_) (hx : ρ x = .pointer (some ⟨b, off, none⟩)) (hy : ρ y = v)
    (hv : v.oneCell' = true) (hlt : off < c.size) (hc : c.setIfInBounds off v = c') (H : Has E w ([Hp.one b (.cells c U (0, 0))] :: ss))
    (hK : ∀ w', Has E w' ([Hp.one b (.cells c' U (0, 0))] :: ss) → K undef w') : OK P ⟨dst, .store t x y, T, pos, after, g⟩ ρ w K := by
  have hwb : w.heap[b]? = some (.cells c U (0, 0)) := H.at (h := Hp.one b (.cells c U (0, 0))) (by simp) (Hp.one_at _ _)
  have hcell : w.cell? ⟨b, off, none⟩ = some c[off] := by rw [cell_of_row w b off c U (0, 0) hwb]; simp [hlt]
  have hfz : w.frozen? ⟨b, off, none⟩ = false := by simp [World.frozen?, hwb]
  have hcl : v.cells = #[v] := by cases v <;> first | rfl | (simp [Value.oneCell'] at hv)
  refine OK.skip (w' := w.setCell ⟨b, off, none⟩ v) (run_u ?_) (hK _ ?_)
  · rw [hx, hy]
    simp only [Instr.storeAt, Instr.sureAddr, Sem.run_bind, Sem.run_pure, Result.andThen_ok, storeVar, hi.size, hcl]
    simp [storeCells, add_lit, run_store P w ⟨b, off, none⟩ v .plain hv, hcell, hfz]
  · refine Has0.write (an := [Hp.one b (.cells c U (0, 0))]) (an' := [Hp.one b (.cells c' U (0, 0))]) (hs := ss.flatten) H rfl rfl rfl (by simp) ?_ ?_ ?_
    · intro k hk
      have hk := hk _ (List.mem_singleton.2 rfl)
      refine .inl fun h hh => ?_
      rw [List.mem_singleton.1 hh]
      unfold Hp.one at hk ⊢
      split at hk
      · cases hk
      · rw [if_neg (by assumption)]
    · intro h hh k o hk
      rw [List.mem_singleton.1 hh] at hk
      obtain ⟨rfl, rfl⟩ := Hp.one_some hk
      simp only [World.setCell, Array.getElem?_modify]
      simp [hwb, hc]
    · intro k _ hk
      have hk := hk _ (List.mem_singleton.2 rfl)
      have : k ≠ b := by rintro rfl; rw [Hp.one_at] at hk; cases hk
      simp only [World.setCell, Array.getElem?_modify]
      rw [if_neg (by omega)]
end ops
end Go.Q
namespace Go.Q

/-- A row that lies alone in its block, from the block's beginning on. -/
def Own (e : TypeId) (sz : Nat) (v : Value) (n : Nat) (cs : List Value) (hs : List Hp) : Prop :=
  cs.length = n * sz ∧ ((v = .slice none 0 0 ∧ n = 0 ∧ hs = []) ∨
    ∃ b cap cur, v = .slice (some ⟨b, 0, none⟩) n cap ∧ hs = [Hp.one b (.cells cur e (0, 0))] ∧ n ≤ cap ∧ cap ≤ maxLen ∧ cur.size = cap * sz ∧ cur.toList.take (n * sz) = cs)

theorem Own.nil (e : TypeId) (sz : Nat) : Own e sz (.slice none 0 0) 0 [] [] := ⟨by simp, .inl ⟨rfl, rfl, rfl⟩⟩
theorem Own.lit {e : TypeId} {sz n b : Nat} {cur : Array Value} (h : cur.size = n * sz) (hm : n ≤ maxLen) :
    Own e sz (.slice (some ⟨b, 0, none⟩) n n) n cur.toList [Hp.one b (.cells cur e (0, 0))] :=
  ⟨by simpa using h, .inr ⟨b, n, cur, rfl, rfl, Nat.le_refl _, hm, h, by rw [List.take_of_length_le (by simp [h])]⟩⟩
theorem Own.sl {e : TypeId} {sz n : Nat} {v : Value} {cs : List Value} {hs : List Hp} (H : Own e sz v n cs hs) : Sl hs sz v n cs := by
  obtain ⟨hl, ⟨rfl, rfl, rfl⟩ | ⟨b, cap, cur, rfl, rfl, hnc, hcm, hcs, htake⟩⟩ := H
  · exact ⟨none, 0, rfl, Nat.le_refl _, by omega, hl, fun h => by omega⟩
  · refine ⟨_, cap, rfl, hnc, by simpa [maxLen] using hcm, hl, fun _ => ⟨b, 0, rfl, ?_⟩⟩
    refine CellsAt.one ?_
    rw [List.drop_zero, hl]; exact htake
theorem Own.row {e : TypeId} {sz n : Nat} {v : Value} {cs : List Value} {hs : List Hp} (H : Own e sz v n cs hs) {E w : World} {ss : List (List Hp)} (hH : Has E w (hs :: ss)) : w.ownsRow 0 e sz v n cs := by
  obtain ⟨hl, ⟨rfl, rfl, rfl⟩ | ⟨b, cap, cur, rfl, rfl, hnc, hcm, hcs, htake⟩⟩ := H
  · exact ⟨hl, .inl ⟨rfl, rfl⟩⟩
  · exact ⟨hl, .inr ⟨b, cap, cur, rfl, Nat.zero_le _, hH.at (by simp) (Hp.one_at _ _), hnc, hcm, hcs, htake⟩⟩

/-- A world that has grown by a row's own block. -/
theorem Own.turn {e : TypeId} {sz n n' : Nat} {v v' : Value} {cs cs' : List Value} {hs : List Hp} (H : Own e sz v n cs hs) {E w w' : World} {ss : List (List Hp)} (hH : Has E w (hs :: ss))
    (ho : w'.ownsRow 0 e sz v' n' cs') (hg : w.grownBy w' v.ownBlock) (hl : v'.ownBlock = v.ownBlock ∨ v'.ownBlock = some w.heap.size) :
    ∃ hs', Own e sz v' n' cs' hs' ∧ Has E w' (hs' :: ss) := by
  have hdom : ∀ b, (∀ h ∈ hs, h b = none) → v.ownBlock ≠ some b := by
    intro b hb hv
    obtain ⟨_, ⟨rfl, _⟩ | ⟨b', cap, cur, rfl, rfl, _⟩⟩ := H
    · simp [Value.ownBlock] at hv
    · simp [Value.ownBlock] at hv
      subst hv
      have := hb _ (List.mem_singleton.2 rfl)
      rw [Hp.one_at] at this; cases this
  have keep : ∀ b, b < w.heap.size → (∀ h ∈ hs, h b = none) → w'.heap[b]? = w.heap[b]? := fun b hb hn => hg.block b hb (fun e => hdom b hn e.symm)
  obtain ⟨hl', ⟨rfl, rfl⟩ | ⟨b, cap, cur, rfl, _, hb, hnc, hcm, hcs, htake⟩⟩ := ho
  · refine ⟨[], ⟨hl', .inl ⟨rfl, rfl, rfl⟩⟩, ?_⟩
    refine Has0.write (an := hs) (an' := []) (hs := ss.flatten) hH hg.os hg.tape hg.output (by simp) (fun b _ => .inl (by simp)) (by simp) keep
  · refine ⟨[Hp.one b (.cells cur e (0, 0))], ⟨hl', .inr ⟨b, cap, cur, rfl, rfl, hnc, hcm, hcs, htake⟩⟩, ?_⟩
    refine Has0.write (an := hs) (an' := [Hp.one b (.cells cur e (0, 0))]) (hs := ss.flatten) hH hg.os hg.tape hg.output (by simp) (fun k hk => ?_) ?_ keep
    · by_cases hkb : k = b
      · subst hkb
        rcases hl with hl | hl
        · exact absurd hl.symm (hdom k hk)
        · simp [Value.ownBlock] at hl; exact .inr (by omega)
      · refine .inl fun h hh => ?_
        rw [List.mem_singleton.1 hh]; unfold Hp.one; rw [if_neg hkb]
    · intro h hh k o hk
      rw [List.mem_singleton.1 hh] at hk
      obtain ⟨rfl, rfl⟩ := Hp.one_some hk
      exact hb

section ops
variable {P : Program} {ρ : Operand → Value} {E w : World} {ss : List (List Hp)} {K : Value → World → Prop} {dst : Option Tmp} {T : TypeId} {pos : String} {after : Array Edge} {g : Option (Nat × Bool)}

theorem o_append {x y : Operand} {t e : TypeId} {z v u : Value} {sz by_ n m : Nat} {cs ds : List Value} {hs L : List Hp} (ht : P.underlying t = some (.slice e)) (hi : TI P e z sz by_)
    (hz : z.cells.size = sz) (hsz : 0 < sz) (hx : ρ x = v) (ho : Own e sz v n cs hs) (hy : ρ y = u) (hu : Sl L sz u m ds) (H : Has E w (hs :: ss)) (hL : L ⊆ ss.flatten)
    (h1 : ∀ u ∈ ds, u.oneCell' = true) (hb : (n + m) * by_ ≤ 140737488355328) (h63 : n + m ≤ 9223372036854775807)
    (hK : ∀ v' hs' w', Own e sz v' (n + m) (cs ++ ds) hs' → Has E w' (hs' :: ss) → K v' w') :
    OK P ⟨dst, .call ⟨.builtin .append, #[x, y], #[t, t]⟩, T, pos, after, g⟩ ρ w K := by
  obtain ⟨i, hi, hiz, hisz, hiby⟩ := hi
  obtain ⟨p, cap, rfl, hnc, hcm, hl, hp⟩ := hu
  have hrow := ho.row H
  by_cases hm : m = 0
  · subst hm
    have hds : ds = [] := by simpa using hl
    subst hds
    refine o_call_builtin (v := v) (w' := w) ?_ (hK _ hs w (by simpa using ho) H)
    obtain ⟨hlc, ⟨rfl, rfl, rfl⟩ | ⟨b, cap', cur, rfl, rfl, hnc', _⟩⟩ := ho
    · cases p <;> simp [hx, hy, builtin, Builtin.append_, run_underlying ht, sizeOf, typeInfo, hi, Builtin.lenOf, Builtin.firstCells, loadCells, loadCellsFrom]
    · cases p <;> simp [hx, hy, builtin, Builtin.append_, run_underlying ht, sizeOf, typeInfo, hi, Builtin.lenOf, Builtin.firstCells, loadCells, loadCellsFrom, hnc', storeCells]
  · obtain ⟨b, off, rfl, hc⟩ := hp (by omega)
    obtain ⟨v', w', hr, ho', hg, _, hloc⟩ := run_append_own_at (P := P) w 0 t T e i z sz by_ ht hi hiz hisz hiby hz hsz v n cs hrow ⟨b, off, none⟩ m cap ds hl
      (fun j u hj => by rw [add_lit]; exact H.cell (fun _ hx => List.mem_append_right _ (hL hx)) hc hj) h1 (by simpa [maxLen] using h63) hb (Nat.zero_le _)
    obtain ⟨hs', hown, hH⟩ := ho.turn H ho' hg hloc
    refine o_call_builtin (v := v') (w' := w') ?_ (hK v' hs' w' hown hH)
    simp only [hx, hy, builtin, List.map_toArray, List.map_cons, List.map_nil, Sem.run_bind, hr, Result.andThen_ok, Sem.run_pure]

/-- make -/
theorem o_make {x y : Operand} {t e : TypeId} {z : Value} {sz by_ : Nat} {kl kc : IntKind} {l c : Int} (ht : P.underlying t = some (.slice e)) (hi : TI P e z sz by_)
    (hx : ρ x = .int kl l) (hy : ρ y = .int kc c) (h0 : 0 ≤ l) (hlc : l ≤ c) (hb : (by_ : Int) * c ≤ 281474976710656) (h63 : c ≤ 9223372036854775807) (H : Has E w ss)
    (hK : ∀ v' hs' w', Own e sz v' l.toNat ((madeCells z.cells (c.toNat * sz)).toList.take (l.toNat * sz)) hs' → Has E w' (hs' :: ss) → K v' w') :
    OK P ⟨dst, .makeSlice t x y, T, pos, after, g⟩ ρ w K := by
  obtain ⟨i, hi, hiz, hisz, hiby⟩ := hi
  subst hisz hiby
  have hr := run_make (P := P) w t e i z ht hi hiz kl kc l c h0 hlc hb h63
  refine OK.val (run_v (by rw [hx, hy]; exact hr)) (hK _ [Hp.one w.heap.size (.cells (madeCells z.cells (c.toNat * i.size)) e (0, 0))] _ ⟨?_, .inr ⟨w.heap.size, c.toNat, _, rfl, rfl, by omega, by simp [maxLen]; omega, size_madeCells _ _, rfl⟩⟩ (H.alloc _))
  rw [List.length_take, Array.length_toList, size_madeCells, Nat.min_eq_left]
  exact Nat.mul_le_mul_right _ (by omega)
theorem made_nil (z : Array Value) (n k : Nat) : (madeCells z n).toList.take (0 * k) = [] := by simp
theorem made_rep (v : Value) (n : Nat) : (madeCells #[v] (n * 1)).toList.take (n * 1) = List.replicate n v := by
  rw [List.take_of_length_le (by simp [size_madeCells])]
  apply List.ext_getElem
  · simp [size_madeCells]
  · intro i h1 h2
    simp [madeCells, Nat.mod_one]

/-- s[i:j] of a text -/
theorem extract_S (a : List UInt8) (i j : Nat) : Value.string ((⟨a.toArray⟩ : ByteArray).extract i j) = S ((a.take j).drop i) := by
  unfold S
  congr 1
  apply ByteArray.ext
  rw [ByteArray.data_extract]
  simp [List.drop_take]
theorem run_ssl {t : TypeId} {a : List UInt8} {k k' : IntKind} {i j : Int} (ht : P.underlying t = some .string) (h0 : 0 ≤ i) (h1 : i ≤ j) (h2 : j ≤ a.length) :
    (Instr.sliceAt t (S a) (some (.int k i)) (some (.int k' j)) none).run P w = .ok (S ((a.take j.toNat).drop i.toNat)) w := by
  have hs := bytes_size a
  have e : ((j.toNat : Nat) : Int) = j := Int.toNat_of_nonneg (by omega)
  rw [run_sliceAt_string _ _ _ _ _ _ ht, ← extract_S]
  unfold S
  simp [Instr.slice, run_underlying ht, Instr.sliceBounds, run_sliceBound, hs, h0, h1, h2, e, (show 0 ≤ j by omega)]
theorem run_ssl_l {t : TypeId} {a : List UInt8} {k : IntKind} {i : Int} (ht : P.underlying t = some .string) (h0 : 0 ≤ i) (h1 : i ≤ a.length) :
    (Instr.sliceAt t (S a) (some (.int k i)) none none).run P w = .ok (S (a.drop i.toNat)) w := by
  have hs := bytes_size a
  rw [run_sliceAt_string _ _ _ _ _ _ ht]
  have := extract_S a i.toNat a.length
  rw [List.take_of_length_le (Nat.le_refl _)] at this
  rw [← this]
  unfold S
  simp [Instr.slice, run_underlying ht, Instr.sliceBounds, run_sliceBound, hs, h0, h1]
theorem run_ssl_h {t : TypeId} {a : List UInt8} {k : IntKind} {j : Int} (ht : P.underlying t = some .string) (h0 : 0 ≤ j) (h1 : j ≤ a.length) :
    (Instr.sliceAt t (S a) none (some (.int k j)) none).run P w = .ok (S (a.take j.toNat)) w := by
  have hs := bytes_size a
  rw [run_sliceAt_string _ _ _ _ _ _ ht]
  have := extract_S a 0 j.toNat
  rw [List.drop_zero] at this
  rw [← this]
  unfold S
  simp [Instr.slice, run_underlying ht, Instr.sliceBounds, run_sliceBound, hs, h0, h1]
theorem o_ssl {x y z : Operand} {t : TypeId} {a : List UInt8} {k k' : IntKind} {i j : Int} (ht : P.underlying t = some .string) (hx : ρ x = S a) (hy : ρ y = .int k i) (hz : ρ z = .int k' j)
    (h0 : 0 ≤ i) (h1 : i ≤ j) (h2 : j ≤ a.length) (hK : K (S ((a.take j.toNat).drop i.toNat)) w) : OK P ⟨dst, .slice t x (some y) (some z) none, T, pos, after, g⟩ ρ w K :=
  OK.val (run_v (by simp only [hx, hy, hz, Option.map_some, Option.map_none]; exact run_ssl ht h0 h1 h2)) hK
theorem o_ssl_l {x y : Operand} {t : TypeId} {a : List UInt8} {k : IntKind} {i : Int} (ht : P.underlying t = some .string) (hx : ρ x = S a) (hy : ρ y = .int k i)
    (h0 : 0 ≤ i) (h1 : i ≤ a.length) (hK : K (S (a.drop i.toNat)) w) : OK P ⟨dst, .slice t x (some y) none none, T, pos, after, g⟩ ρ w K :=
  OK.val (run_v (by simp only [hx, hy, Option.map_some, Option.map_none]; exact run_ssl_l ht h0 h1)) hK
theorem o_ssl_h {x z : Operand} {t : TypeId} {a : List UInt8} {k : IntKind} {j : Int} (ht : P.underlying t = some .string) (hx : ρ x = S a) (hz : ρ z = .int k j)
    (h0 : 0 ≤ j) (h1 : j ≤ a.length) (hK : K (S (a.take j.toNat)) w) : OK P ⟨dst, .slice t x none (some z) none, T, pos, after, g⟩ ρ w K :=
  OK.val (run_v (by simp only [hx, hz, Option.map_some, Option.map_none]; exact run_ssl_h ht h0 h1)) hK

/-- parts of rows that are read -/
theorem CellsAt.drop {L : List Hp} {b off k : Nat} {cs : List Value} (H : CellsAt L b off cs) : CellsAt L b (off + k) (cs.drop k) := H.sub fun j v hv => by rwa [List.getElem?_drop] at hv
theorem CellsAt.take {L : List Hp} {b off k : Nat} {cs : List Value} (H : CellsAt L b off cs) : CellsAt L b off (cs.take k) :=
  H.sub (k := 0) fun j v hv => by
    rw [List.getElem?_take] at hv
    split at hv
    · simpa using hv
    · cases hv
theorem Sl.part {L : List Hp} {sz : Nat} {p : Option Addr} {n cap : Nat} {cs : List Value} (H : Sl L sz (.slice p n cap) n cs) (i j : Nat) (hij : i ≤ j) (hj : j ≤ n) :
    Sl L sz (sliced p i j cap sz) (j - i) (((cs.take (j * sz)).drop (i * sz))) := by
  obtain ⟨p', cap', e, hnc, hcm, hl, hp⟩ := H
  cases e
  refine ⟨_, _, rfl, by omega, by omega, ?_, fun h => ?_⟩
  · rw [List.length_drop, List.length_take, hl, Nat.min_eq_left (Nat.mul_le_mul_right _ hj), Nat.sub_mul]
  · obtain ⟨b, off, rfl, hc⟩ := hp (by omega)
    rw [if_neg (by omega)]
    refine ⟨b, off + i * sz, ?_, hc.take.drop⟩
    simp [add_lit]
theorem o_sl {x y z : Operand} {t e : TypeId} {zz : Value} {v : Value} {sz by_ n : Nat} {cs : List Value} {L : List Hp} {k k' : IntKind} {i j : Int} (ht : P.underlying t = some (.slice e)) (hi : TI P e zz sz by_)
    (hx : ρ x = v) (hs : Sl L sz v n cs) (hy : ρ y = .int k i) (hz : ρ z = .int k' j) (h0 : 0 ≤ i) (h1 : i ≤ j) (h2 : j ≤ n)
    (hK : ∀ v', Sl L sz v' (j.toNat - i.toNat) ((cs.take (j.toNat * sz)).drop (i.toNat * sz)) → K v' w) : OK P ⟨dst, .slice t x (some y) (some z) none, T, pos, after, g⟩ ρ w K := by
  obtain ⟨p, cap, rfl⟩ := hs.form
  refine OK.val (run_v ?_) (hK _ (hs.part i.toNat j.toNat (by omega) (by omega)))
  obtain ⟨_, _, e, hnc, _⟩ := hs
  cases e
  have e1 : P.elem t = e := by simp [Program.elem, ht]
  simp only [hx, hy, hz, Option.map_some, Option.map_none]
  rw [run_sliceAt_slice _ _ _ _ _ _ (by rw [e1]; exact ht), run_slice_lh _ _ _ _ _ (by rw [e1]; exact ht) _ _ _ _ h0 h1 (by omega), e1, hi.size]
  rfl
end ops
end Go.Q
namespace Go.Q

section control
variable {P : Program} {Q : Exit → Act → World → Prop} {w : World} {N : Nat} {r : Nat → Value}

theorem c_cond {p : Prop} [Decidable p] {c : Operand} {x y : Code} (hc : ev N r c = .bool (decide p)) (ht : p → x.wp P Q (fr N r) w) (hf : ¬ p → y.wp P Q (fr N r) w) : (Code.cond c x y).wp P Q (fr N r) w :=
  wp_cond_split (t := decide p) (by rw [fr_eval]; exact hc) (fun h => ht (of_decide_eq_true h)) (fun h => hf (of_decide_eq_false h))
theorem c_condb {b : Bool} {c : Operand} {x y : Code} (hc : ev N r c = .bool b) (ht : b = true → x.wp P Q (fr N r) w) (hf : b = false → y.wp P Q (fr N r) w) : (Code.cond c x y).wp P Q (fr N r) w :=
  wp_cond_split (t := b) (by rw [fr_eval]; exact hc) ht hf
theorem c_true {c : Operand} {x y : Code} {b : Bool} (hc : ev N r c = .bool b) (hb : b = true) (h : x.wp P Q (fr N r) w) : (Code.cond c x y).wp P Q (fr N r) w :=
  wp_cond_true (by rw [fr_eval, hc, hb]) h
theorem c_false {c : Operand} {x y : Code} {b : Bool} (hc : ev N r c = .bool b) (hb : b = false) (h : y.wp P Q (fr N r) w) : (Code.cond c x y).wp P Q (fr N r) w :=
  wp_cond_false (by rw [fr_eval, hc, hb]) h
theorem c_region {id : Nat} {ops : List Oper} (h : wpList P ops.toArray Q ops (fr N r) w) : (Code.region id ops.toArray false).wp P Q (fr N r) w := wp_region_lit h

theorem x_in {id : Nat} {a : Act} (h : Q .normal a w) : Exit.inBlock id Q (.exit id) a w := by simp only [Exit.inBlock, if_true]; exact h
theorem x_out {id id' : Nat} {a : Act} (hne : (id' == id) = false) (h : Q (.exit id') a w) : Exit.inBlock id Q (.exit id') a w := by
  have : id' ≠ id := by simpa using hne
  simp only [Exit.inBlock, if_neg this]; exact h

/-- A loop: the invariant bears a number that every round lowers. -/
theorem c_loop {c : Code} (I : Nat → (Nat → Value) → World → Prop) (n₀ : Nat) (h₀ : I n₀ r w)
    (round : ∀ n r w, I n r w → c.wp P (Exit.then (fun a' w' => ∃ m r', a' = fr N r' ∧ m < n ∧ I m r' w') Q) (fr N r) w) : (Code.loop c).wp P Q (fr N r) w := by
  intro b k cs
  have key : ∀ n r w, I n r w →
      ∃ e a' w', Q e a' w' ∧ Arrives P (lone (b.at (fr N r) (.code c :: .inLoop c :: k)) cs w) b k cs e a' w' := by
    intro n
    induction n using Nat.strongRecOn with
    | _ n ih =>
      intro r w hI
      obtain ⟨e, a₁, w₁, hq, harr⟩ := round n r w hI b (.inLoop c :: k) cs
      cases e with
      | normal =>
        obtain ⟨m, r₁, rfl, hlt, hI₁⟩ := hq
        obtain ⟨e₂, a₂, w₂, hq₂, harr₂⟩ := ih m hlt r₁ w₁ hI₁
        exact ⟨e₂, a₂, w₂, hq₂, .of_steps (Steps.trans harr (.one step_inLoop)) harr₂⟩
      | exit id => exact ⟨_, a₁, w₁, hq, .pass (x := .inLoop c) rfl (fun _ _ => .inl (by simp)) harr⟩
      | goto l => exact ⟨_, a₁, w₁, hq, .pass (x := .inLoop c) rfl (fun _ _ => .inl (by simp)) harr⟩
      | ret => exact ⟨_, a₁, w₁, hq, .pass (x := .inLoop c) rfl (fun _ _ => .inl (by simp)) harr⟩
      | panic ch => exact ⟨_, a₁, w₁, hq, .pass (x := .inLoop c) rfl (fun _ _ => .inl (by simp)) harr⟩
      | outgrown => exact ⟨_, a₁, w₁, hq, .pass (x := .inLoop c) rfl (fun _ _ => .inl (by simp)) harr⟩
  obtain ⟨e, a', w', hq, harr⟩ := key n₀ r w h₀
  exact ⟨e, a', w', hq, .of_steps (.one step_loop) harr⟩

/-- the ends -/
theorem c_ret0 {fn : Func} {R : Ending → World → Prop} (hr : fn.results = #[]) (hR : R (.returned (.tuple #[])) w) : bodyPost P fn R .ret (fr N r) w :=
  bodyPost_ret (results_none hr _ _ _) rfl hR
theorem c_end0 {fn : Func} {R : Ending → World → Prop} (hr : fn.results = #[]) (hR : R (.returned (.tuple #[])) w) : bodyPost P fn R .normal (fr N r) w :=
  bodyPost_end (results_none hr _ _ _) rfl hR
theorem getD_fr (t : Nat) : (fr N r).tmps.getD t undef = ev N r (.tmp t) := by rw [← fr_eval]; rfl
theorem c_ret1 {fn : Func} {R : Ending → World → Prop} {t : Tmp} {v : Value} (hr : fn.results = #[.tmp t]) (hv : ev N r (.tmp t) = v) (hR : R (.returned v) w) : bodyPost P fn R .ret (fr N r) w :=
  bodyPost_ret (v := v) (by rw [results_tmp hr, getD_fr, hv]) rfl hR
theorem c_ret2 {fn : Func} {R : Ending → World → Prop} {t u : Tmp} {v x : Value} (hr : fn.results = #[.tmp t, .tmp u]) (hv : ev N r (.tmp t) = v) (hx : ev N r (.tmp u) = x)
    (hR : R (.returned (.tuple #[v, x])) w) : bodyPost P fn R .ret (fr N r) w :=
  bodyPost_ret (v := .tuple #[v, x]) (by rw [results_tmp2 hr, getD_fr, getD_fr, hv, hx]) rfl hR
theorem c_ret3 {fn : Func} {R : Ending → World → Prop} {t u s : Tmp} {v x y : Value} (hr : fn.results = #[.tmp t, .tmp u, .tmp s]) (hv : ev N r (.tmp t) = v) (hx : ev N r (.tmp u) = x) (hy : ev N r (.tmp s) = y)
    (hR : R (.returned (.tuple #[v, x, y])) w) : bodyPost P fn R .ret (fr N r) w := by
  refine bodyPost_ret (v := .tuple #[v, x, y]) ?_ rfl hR
  have e : ∀ t, (fr N r).tmps[t]?.getD undef = ev N r (.tmp t) := fun t => by rw [← getD_fr, Array.getD_eq_getD_getElem?]
  simp [results, hr, e, ← hv, ← hx, ← hy]
theorem c_enter {f : FuncId} {fn : Func} {c : Code} {args : List Value} {R : Ending → World → Prop} {N : Nat} (hf : P.funcs[f]? = some fn) (hb : fn.body = some c) (hn : fn.ntmps = N) (hN : args.length ≤ N)
    (h : c.wp P (bodyPost P fn R) (fr N (base args)) w) : Calls P f args.toArray w R := by
  refine calls_of_wp hf hb ?_
  have e : ({ tmps := args.toArray ++ Array.replicate (fn.ntmps - args.toArray.size) undef, defers := [] } : Act) = fr N (base args) := by
    have : args.toArray ++ Array.replicate (fn.ntmps - args.toArray.size) undef = (fr N (base args)).tmps := by
      apply Array.ext_getElem?
      intro t
      rw [fr_at, hn, Array.getElem?_append]
      unfold base
      by_cases h1 : t < args.length
      · rw [if_pos (by simpa using h1), if_pos (by omega)]; simp [h1]
      · rw [if_neg (by simpa using h1)]
        by_cases h2 : t < N
        · rw [if_pos h2]; simp [h1, Array.getElem?_replicate]; omega
        · rw [if_neg h2]; simp [Array.getElem?_replicate]; omega
    exact act_ext this rfl
  rw [e]; exact h
end control


/-- The whole is told as one list. -/
theorem Has.all {E w : World} {ss : List (List Hp)} (H : Has E w ss) : Has E w [ss.flatten] := by unfold Has at *; simpa using H
theorem Has.of_all {E w : World} {ss : List (List Hp)} (H : Has E w [ss.flatten]) : Has E w ss := by unfold Has at *; simpa using H
theorem Has.all1 {E w : World} {s : List Hp} {ss : List (List Hp)} (H : Has E w (s :: ss)) : Has E w [s, ss.flatten] := by unfold Has at *; simpa using H
theorem Has.of_all1 {E w : World} {s : List Hp} {ss : List (List Hp)} (H : Has E w [s, ss.flatten]) : Has E w (s :: ss) := by unfold Has at *; simpa using H
theorem Has.all2 {E w : World} {s t : List Hp} {ss : List (List Hp)} (H : Has E w (s :: t :: ss)) : Has E w [s, t, ss.flatten] := by unfold Has at *; simpa using H
theorem Has.of_all2 {E w : World} {s t : List Hp} {ss : List (List Hp)} (H : Has E w [s, t, ss.flatten]) : Has E w (s :: t :: ss) := by unfold Has at *; simpa using H

theorem w64 {x : Int} (h0 : -9223372036854775808 ≤ x) (h1 : x ≤ 9223372036854775807) : IntKind.wrap .i64 x = x := by rw [IntKind.wrap_i64]; omega
theorem w_u8 (b : UInt8) : IntKind.wrap .i64 (b.toNat : Int) = b.toNat := w64 (by omega) (by have := b.toNat_lt; omega)
def iV (x : Int) : Value := .int .i64 x
def bV (b : UInt8) : Value := .int .u8 b.toNat
abbrev Ints (L : List Hp) (v : Value) (l : List Int) : Prop := Sl L 1 v l.length (l.map iV)
theorem Sl.le {L : List Hp} {sz n : Nat} {v : Value} {cs : List Value} (H : Sl L sz v n cs) : n ≤ 9223372036854775807 := by
  obtain ⟨p, cap, e, a, b, c⟩ := H; omega
theorem get_some {α : Type} {l : List α} {k : Nat} (h : k < l.length) : ∃ x, l[k]? = some x := ⟨_, List.getElem?_eq_getElem h⟩
theorem take_succ_of {α : Type} {l : List α} {k : Nat} {x : α} (h : l[k]? = some x) : l.take (k + 1) = l.take k ++ [x] := by
  rw [List.take_add_one, h]; rfl

def Callable (P : Program) (f : FuncId) : Prop := ∃ fn, P.funcs[f]? = some fn ∧ fn.body.isNone = false ∧ (fn.name == "runtime.NumGoroutine") = false

section ops
variable {P : Program} {ρ : Operand → Value} {E w : World} {ss : List (List Hp)} {K : Value → World → Prop} {dst : Option Tmp} {T : TypeId} {pos : String} {after : Array Edge} {g : Option (Nat × Bool)}
theorem o_callf {c : Operand} {f : FuncId} {first captured : Array Value} {args : Array Operand} {ts : Array TypeId} {vs : Array Value} {R : Ending → World → Prop} (hf : Callable P f)
    (hv : ρ c = .func (.func f) first captured) (hargs : first ++ args.map ρ ++ captured = vs) (hc : Calls P f vs w R)
    (hK : ∀ e w', R e w' → ∃ v, e = .returned v ∧ K v w') : OK P ⟨dst, .call ⟨.value c, args, ts⟩, T, pos, after, g⟩ ρ w K := by
  obtain ⟨fn, h1, h2, h3⟩ := hf
  exact o_call h1 h2 h3 hv hargs hc hK
/-- an element's place in a row of one cell each -/
theorem o_index1 {α : Type} {f : α → Value} {l : List α} {a : α} {x y : Operand} {t e : TypeId} {L : List Hp} {by_ : Nat} {v z : Value} {k : IntKind} {i : Int} (ht : P.underlying t = some (.slice e)) (hi : TI P e z 1 by_)
    (hx : ρ x = v) (hs : Sl L 1 v l.length (l.map f)) (hy : ρ y = .int k i) (h0 : 0 ≤ i) (ha : l[i.toNat]? = some a) (hK : ∀ b off, CellsAt L b off [f a] → K (.pointer (some ⟨b, off, none⟩)) w) :
    OK P ⟨dst, .indexAddr t x y, T, pos, after, g⟩ ρ w K := by
  have hlt : i.toNat < l.length := (List.getElem?_eq_some_iff.1 ha).1
  refine o_indexAddr ht hi hx hs hy h0 (by omega) fun b off hc => hK b off ?_
  rw [drop_take_map f l _ hlt] at hc
  have := (List.getElem?_eq_some_iff.1 ha).2
  rwa [this] at hc
end ops
theorem t_norm {K : Act → World → Prop} {Q : Exit → Act → World → Prop} {a : Act} {w : World} (h : K a w) : Exit.then K Q .normal a w := h
theorem t_exit {K : Act → World → Prop} {Q : Exit → Act → World → Prop} {a : Act} {w : World} {id : Nat} (h : Q (.exit id) a w) : Exit.then K Q (.exit id) a w := h
theorem t_ret {K : Act → World → Prop} {Q : Exit → Act → World → Prop} {a : Act} {w : World} (h : Q .ret a w) : Exit.then K Q .ret a w := h
theorem b_norm {id : Nat} {Q : Exit → Act → World → Prop} {a : Act} {w : World} (h : Q .normal a w) : Exit.inBlock id Q .normal a w := h
theorem b_ret {id : Nat} {Q : Exit → Act → World → Prop} {a : Act} {w : World} (h : Q .ret a w) : Exit.inBlock id Q .ret a w := h
end Go.Q
namespace Go.Q

def depsOf (ops : List Oper) (i : Nat) : List Nat := match ops[i]? with
  | some o => o.after.toList.filterMap fun e => if Region.binds .any e then some e.on else none
  | none => []
/-- Is j ahead of i? -/
def anc (ops : List Oper) : Nat → Nat → Nat → Bool
  | 0, _, _ => false
  | f + 1, i, j => (depsOf ops i).any fun d => d == j || anc ops f d j
def slot (r : Nat → Value) (o : Oper) : Value := match o.dst with | some t => r t | none => undef
/-- Is a region of that make: no guards, each slot written once, all edges lead back? -/
def flowOk (ops : List Oper) : Bool :=
  ((List.range ops.length).all fun i => match ops[i]? with
    | some o => o.guard.isNone && (depsOf ops i).all (fun d => decide (d < i)) && (List.range ops.length).all fun j => j == i || match ops[j]? with
      | some o' => o.dst.isNone || o'.dst != o.dst
      | none => true
    | none => true)
def puts (vs : Nat → Value) : List Oper → Nat → (Nat → Value) → (Nat → Value)
  | [], _, r => r
  | o :: l, i, r => puts vs l (i + 1) (match o.dst with | some t => upd r t (vs i) | none => r)

theorem puts_old (vs : Nat → Value) (l : List Oper) : ∀ (i : Nat) (r : Nat → Value) (t : Nat), (∀ o ∈ l, o.dst ≠ some t) → puts vs l i r t = r t := by
  induction l with
  | nil => intro i r t _; rfl
  | cons o l ih =>
    intro i r t h
    rw [puts, ih _ _ _ (fun o' ho => h o' (List.mem_cons_of_mem _ ho))]
    have := h o (List.mem_cons_self ..)
    cases hd : o.dst with
    | none => rfl
    | some d => rw [hd] at this; exact upd_ne _ _ (fun e => this (by rw [e]))
theorem puts_new (vs : Nat → Value) (l : List Oper) : ∀ (i k : Nat) (r : Nat → Value) (o : Oper) (t : Nat), l[k]? = some o → o.dst = some t →
    (∀ j o', l[j]? = some o' → j ≠ k → o'.dst ≠ some t) → puts vs l i r t = vs (i + k) := by
  induction l with
  | nil => intro i k r o t h; simp at h
  | cons o l ih =>
    intro i k r o' t h hd hne
    cases k with
    | zero =>
      simp at h; subst h
      rw [puts, hd, puts_old]
      · simp only [Nat.add_zero]; exact upd_same _ _ _
      · intro o' ho
        obtain ⟨j, hj⟩ := List.getElem?_of_mem ho
        exact hne (j + 1) o' (by simpa using hj) (by omega)
    | succ k =>
      rw [puts, ih (i + 1) k _ o' t (by simpa using h) hd (fun j o'' hj hjk => hne (j + 1) o'' (by simpa using hj) (by omega))]
      congr 1; omega

theorem flowOk_spec {ops : List Oper} (h : flowOk ops = true) {i : Nat} {o : Oper} (ho : ops[i]? = some o) :
    o.guard = none ∧ (∀ d ∈ depsOf ops i, d < i) ∧ ∀ j o' t, ops[j]? = some o' → j ≠ i → o.dst = some t → o'.dst ≠ some t := by
  unfold flowOk at h
  rw [List.all_eq_true] at h
  have hi : i < ops.length := (List.getElem?_eq_some_iff.1 ho).1
  have h1 := h i (List.mem_range.2 hi)
  simp only [ho, Bool.and_eq_true, List.all_eq_true, decide_eq_true_eq] at h1
  obtain ⟨⟨hg, hd⟩, hj⟩ := h1
  refine ⟨by simpa using hg, hd, fun j o' t hj' hne ht => ?_⟩
  have := hj j (List.mem_range.2 (List.getElem?_eq_some_iff.1 hj').1)
  simp only [hj', ht, Option.isNone_some, Bool.false_or, Bool.or_eq_true, beq_iff_eq, bne_iff_ne] at this
  rcases this with h | h
  · exact absurd h hne
  · exact h

theorem anc_trans {ops : List Oper} (_h : flowOk ops = true) {listed : Array Bool} (hc : ∀ i, listed.getD i false = true → ∀ d ∈ depsOf ops i, listed.getD d false = true) :
    ∀ f i j, anc ops f i j = true → (∀ d ∈ depsOf ops i, listed.getD d false = true) → listed.getD j false = true := by
  intro f
  induction f with
  | zero => intro i j h; simp [anc] at h
  | succ f ih =>
    intro i j h hd
    rw [anc, List.any_eq_true] at h
    obtain ⟨d, hdm, hh⟩ := h
    rw [Bool.or_eq_true] at hh
    rcases hh with e | e
    · rw [← beq_iff_eq.1 e]; exact hd d hdm
    · exact ih d j e (hc d (hd d hdm))

theorem mem_depsOf {ops : List Oper} {i : Nat} {o : Oper} (ho : ops[i]? = some o) {e : Edge} (he : e ∈ o.after) (hb : Region.binds .any e = true) : e.on ∈ depsOf ops i := by
  unfold depsOf
  rw [ho]
  exact List.mem_filterMap.2 ⟨e, by simpa using he, by rw [if_pos hb]⟩

/-- What an operation of the region is handed when its turn comes. -/
structure Turn (E : World) (ops : List Oper) (F : List (List Hp)) (C : Nat → List Hp) (Tp : Nat → Value → List Hp → Prop) (N : Nat) (r : Nat → Value) (i : Nat) (r' : Nat → Value) (w : World) (G : List (List Hp)) (hs : Nat → List Hp) : Prop where
  has : Has E w (C i :: G)
  fr : ∀ s ∈ F, s ⊆ G.flatten
  done : ∀ j o, ops[j]? = some o → anc ops ops.length i j = true → Tp j (slot r' o) (hs j) ∧ hs j ⊆ G.flatten
  todo : ∀ j, anc ops ops.length j i = true → C j ⊆ G.flatten
  old : ∀ t, (∀ j o, ops[j]? = some o → o.dst = some t → j = i ∨ anc ops ops.length j i = true) → r' t = r t
  each : ∀ j o, ops[j]? = some o → j ≠ i → C j ⊆ G.flatten ∨ (∃ v, Tp j v (hs j)) ∧ hs j ⊆ G.flatten

theorem c_flow {P : Program} {Q : Exit → Act → World → Prop} {E w : World} {N : Nat} {r : Nat → Value} {id : Nat} {ops : List Oper} (F : List (List Hp)) (C : Nat → List Hp) (Tp : Nat → Value → List Hp → Prop)
    (hm : P.follows .mixedOrders = true) (hok : flowOk ops = true) (H : Has E w (F ++ (List.range ops.length).map C))
    (step : ∀ i o, ops[i]? = some o → ∀ r' w' G hs, Turn E ops F C Tp N r i r' w' G hs → OK P o (ev N r') w' fun v w'' => ∃ h', Tp i (match o.dst with | some _ => v | none => undef) h' ∧ Has E w'' (h' :: G))
    (fin : ∀ (vs : Nat → Value) (hs : Nat → List Hp) w', (∀ i o, ops[i]? = some o → Tp i (vs i) (hs i)) → Has E w' (F ++ (List.range ops.length).map hs) → Q .normal (Go.Q.fr N (puts vs ops 0 r)) w') :
    (Code.region id ops.toArray true).wp P Q (Go.Q.fr N r) w := by
  refine wp_region_any hm ?_
  -- the state while some are done
  let Inv : Array Bool → Act → World → Prop := fun listed a w => listed.size = ops.length ∧ (∀ i, listed.getD i false = true → ∀ d ∈ depsOf ops i, listed.getD d false = true) ∧
    ∃ r' hs, a = Go.Q.fr N r' ∧ Has E w (F ++ (List.range ops.length).map hs) ∧ (∀ i o, ops[i]? = some o → if listed.getD i false = true then o.dst.isSome = true ∧ Tp i (slot r' o) (hs i) ∨ o.dst = none ∧ Tp i undef (hs i) else hs i = C i) ∧
    (∀ t, (∀ i o, ops[i]? = some o → o.dst = some t → listed.getD i false = false) → r' t = r t)
  have key : ∀ fuel listed a w, Inv listed a w → (List.range ops.length).countP (fun i => !listed.getD i false) ≤ fuel → wpAny P .any ops.toArray Q fuel listed a w := by
    have ready0 : ∀ listed : Array Bool, listed.size = ops.length → Region.ready .any ops.toArray listed = [] → ∀ i, i < ops.length → listed.getD i false = true := by
      intro listed hsz hr i
      induction i using Nat.strongRecOn with
      | _ i ih =>
        intro hi
        cases hl : listed.getD i false with
        | true => rfl
        | false =>
          exfalso
          obtain ⟨o, ho⟩ : ∃ o, ops[i]? = some o := ⟨_, List.getElem?_eq_getElem hi⟩
          have : i ∈ Region.ready .any ops.toArray listed := by
            refine mem_ready.2 ⟨?_, o, by simpa using ho, fun e he hb => ?_⟩
            · have : i < listed.size := by omega
              simp [this] at hl ⊢; exact hl
            · have hd := mem_depsOf ho he hb
              have hlt := (flowOk_spec hok ho).2.1 _ hd
              exact ih _ hlt (by omega)
          rw [hr] at this; cases this
    have fin' : ∀ listed a w, Inv listed a w → Region.ready .any ops.toArray listed = [] → Q .normal a w := by
      rintro listed a w ⟨hsz, _, r', hs, rfl, hH, hT, hold⟩ hr
      have hall := ready0 listed hsz hr
      let vs : Nat → Value := fun i => match ops[i]? with | some o => slot r' o | none => undef
      have e : Go.Q.fr N r' = Go.Q.fr N (puts vs ops 0 r) := by
        refine fr_congr fun t _ => ?_
        by_cases hex : ∃ (i : Nat) (o : Oper), ops[i]? = some o ∧ o.dst = some t
        · obtain ⟨i, o, ho, hd⟩ := hex
          rw [puts_new vs ops 0 i r o t ho hd (fun j o' hj hne => (flowOk_spec hok ho).2.2 j o' t hj hne hd)]
          simp [vs, ho, slot, hd]
        · rw [puts_old vs ops 0 r t (fun o ho hd => by obtain ⟨j, hj⟩ := List.getElem?_of_mem ho; exact hex ⟨j, o, hj, hd⟩)]
          exact hold t (fun i o ho hd => absurd ⟨i, o, ho, hd⟩ hex)
      rw [e]
      refine fin vs hs w (fun i o ho => ?_) hH
      have := hT i o ho
      rw [if_pos (hall i (List.getElem?_eq_some_iff.1 ho).1)] at this
      simp only [vs, ho]
      rcases this with ⟨_, h⟩ | ⟨hn, h⟩
      · exact h
      · unfold slot; rw [hn]; exact h
    intro fuel
    induction fuel with
    | zero =>
      intro listed a w hI hc
      have hr : Region.ready .any ops.toArray listed = [] := by
        rw [List.eq_nil_iff_forall_not_mem]
        intro i hi
        obtain ⟨h0, o, ho, _⟩ := mem_ready.1 hi
        have hlt : i < ops.length := by simpa using (Array.getElem?_eq_some_iff.1 ho).1
        have : listed.getD i false = false := by
          have hs : i < listed.size := by rw [hI.1]; exact hlt
          simp [hs] at h0 ⊢; exact h0
        have hp : 0 < (List.range ops.length).countP (fun i => !listed.getD i false) := List.countP_pos_iff.2 ⟨i, List.mem_range.2 hlt, by rw [this]; rfl⟩
        omega
      exact ⟨hr, fin' listed a w hI hr⟩
    | succ fuel ih =>
      intro listed a w hI hc
      refine ⟨fin' listed a w hI, fun i hi => ?_⟩
      obtain ⟨hsz, hcl, r', hs, rfl, hH, hT, hold⟩ := hI
      obtain ⟨h0, o, ho', hdone⟩ := mem_ready.1 hi
      have ho : ops[i]? = some o := by simpa using ho'
      have hlt : i < ops.length := (List.getElem?_eq_some_iff.1 ho).1
      have hli : listed.getD i false = false := by
        have hs : i < listed.size := by omega
        simp [hs] at h0 ⊢; exact h0
      obtain ⟨hg, hdlt, hdist⟩ := flowOk_spec hok ho
      have hdeps : ∀ d ∈ depsOf ops i, listed.getD d false = true := by
        intro d hd
        unfold depsOf at hd
        rw [ho] at hd
        obtain ⟨e, he, heq⟩ := List.mem_filterMap.1 hd
        split at heq
        · cases heq; exact hdone e (by simpa using he) (by assumption)
        · cases heq
      -- the heaplets: the one at i in front
      let G : List (List Hp) := F ++ ((List.range i).map hs ++ (List.range' (i + 1) (ops.length - (i + 1))).map hs)
      have hsplit : List.range ops.length = List.range i ++ i :: List.range' (i + 1) (ops.length - (i + 1)) := by
        rw [List.range_eq_range', List.range_eq_range', show i :: List.range' (i + 1) (ops.length - (i + 1)) = List.range' i (ops.length - i) from by
          rw [show ops.length - i = (ops.length - (i + 1)) + 1 by omega, List.range'_succ]]
        have := List.range'_append_1 (s := 0) (m := i) (n := ops.length - i)
        rw [Nat.zero_add] at this
        rw [this]; congr 1; omega
      have mapsplit : ∀ f : Nat → List Hp, (List.range ops.length).map f = (List.range i).map f ++ f i :: (List.range' (i + 1) (ops.length - (i + 1))).map f := by
        intro f; rw [hsplit]; simp
      have hperm : ∀ f : Nat → List Hp, (F ++ (List.range ops.length).map f).Perm (f i :: (F ++ ((List.range i).map f ++ (List.range' (i + 1) (ops.length - (i + 1))).map f))) := by
        intro f
        rw [mapsplit f, ← List.append_assoc, ← List.append_assoc]
        exact List.perm_middle
      have hhi : hs i = C i := by have := hT i o ho; rw [if_neg (by rw [hli]; simp)] at this; exact this
      have inG : ∀ j, j < ops.length → j ≠ i → hs j ∈ G := by
        intro j hj hne
        refine List.mem_append_right _ ?_
        rcases Nat.lt_or_gt_of_ne hne with h | h
        · exact List.mem_append_left _ (List.mem_map.2 ⟨j, List.mem_range.2 h, rfl⟩)
        · exact List.mem_append_right _ (List.mem_map.2 ⟨j, by rw [List.mem_range'_1]; omega, rfl⟩)
      have subG : ∀ s ∈ G, s ⊆ G.flatten := fun s hs' x hx => List.mem_flatten.2 ⟨s, hs', hx⟩
      have ancNe : ∀ j, listed.getD j false = true → j ≠ i := fun j hj e => by rw [e, hli] at hj; cases hj
      have turn : Turn E ops F C Tp N r i r' w G hs := by
        refine ⟨?_, fun s hs' => subG s (List.mem_append_left _ hs'), fun j oj hoj hanc => ?_, fun j hanc => ?_, fun t ht => ?_, fun j oj hoj hne => ?_⟩
        · rw [← hhi]; exact hH.perm (hperm hs).symm
        · have hl := anc_trans hok hcl _ i j hanc hdeps
          refine ⟨?_, subG _ (inG j (List.getElem?_eq_some_iff.1 hoj).1 (ancNe j hl))⟩
          have := hT j oj hoj
          rw [if_pos hl] at this
          rcases this with ⟨_, h⟩ | ⟨hn, h⟩
          · exact h
          · unfold slot; rw [hn]; exact h
        · cases hj : ops[j]? with
          | none =>
            exfalso
            unfold anc at hanc
            split at hanc
            · cases hanc
            · simp [depsOf, hj] at hanc
          | some oj =>
            have hnl : listed.getD j false = false := by
              cases hl : listed.getD j false with
              | false => rfl
              | true =>
                have := anc_trans hok hcl _ j i hanc (hcl j hl)
                rw [hli] at this; cases this
            have hjl := (List.getElem?_eq_some_iff.1 hj).1
            have hne : j ≠ i := by
              rintro rfl
              have := anc_trans hok hcl _ j j hanc hdeps
              rw [hli] at this; cases this
            have := hT j oj hj
            rw [if_neg (by rw [hnl]; simp)] at this
            rw [← this]; exact subG _ (inG j hjl hne)
        · refine hold t (fun j oj hoj hd => ?_)
          rcases ht j oj hoj hd with rfl | hanc
          · exact hli
          · cases hl : listed.getD j false with
            | false => rfl
            | true =>
              have := anc_trans hok hcl _ j i hanc (hcl j hl)
              rw [hli] at this; cases this
        · have hG := subG _ (inG j (List.getElem?_eq_some_iff.1 hoj).1 hne)
          have := hT j oj hoj
          cases hl : listed.getD j false with
          | true =>
            rw [if_pos hl] at this
            rcases this with ⟨_, h⟩ | ⟨_, h⟩
            · exact .inr ⟨⟨_, h⟩, hG⟩
            · exact .inr ⟨⟨_, h⟩, hG⟩
          | false =>
            rw [if_neg (by rw [hl]; simp)] at this
            rw [← this]; exact .inl hG
      have hstep := step i o ho r' w G hs turn
      unfold wpOp
      simp only [show ops.toArray[i]? = some o from ho']
      rw [if_pos (by simp [Region.wanted, hg])]
      refine .inl (OK.wp ?_)
      rw [fr_eval]
      refine hstep.mono fun v w'' ⟨h', hTi, hH'⟩ => ?_
      refine ih _ _ _ ⟨by simpa using hsz, ?_, ?_⟩ ?_
      · intro j hj d hd
        by_cases hji : i = j
        · subst hji; exact getD_set_true (hdeps d hd)
        · rw [getD_set_ne false hji] at hj
          exact getD_set_true (hcl j hj d hd)
      · let hs' : Nat → List Hp := fun j => if j = i then h' else hs j
        have hsG : F ++ ((List.range i).map hs' ++ (List.range' (i + 1) (ops.length - (i + 1))).map hs') = G := by
          have e1 : (List.range i).map hs' = (List.range i).map hs := List.map_congr_left fun j hj => by
            have := List.mem_range.1 hj; simp only [hs']; rw [if_neg (by omega)]
          have e2 : (List.range' (i + 1) (ops.length - (i + 1))).map hs' = (List.range' (i + 1) (ops.length - (i + 1))).map hs := List.map_congr_left fun j hj => by
            have := List.mem_range'_1.1 hj; simp only [hs']; rw [if_neg (by omega)]
          rw [e1, e2]
        have hH2 : Has E w'' (F ++ (List.range ops.length).map hs') := by
          refine hH'.perm ((hperm hs').trans ?_)
          rw [hsG]
          simp [hs']
        have hset : ∀ j, j ≠ i → (listed.setIfInBounds i true).getD j false = listed.getD j false := fun j hj => getD_set_ne false (Ne.symm hj)
        have hseti : (listed.setIfInBounds i true).getD i false = true := by
          have : i < listed.size := by omega
          simp [this]
        cases hd : o.dst with
        | none =>
          refine ⟨r', hs', by rw [fr_put_none], hH2, fun j oj hoj => ?_, fun t ht => hold t fun j oj hoj hdj => ?_⟩
          · by_cases hji : j = i
            · subst hji
              rw [ho] at hoj; cases hoj
              rw [if_pos hseti]
              rw [hd] at hTi
              exact .inr ⟨hd, by simpa [hs'] using hTi⟩
            · rw [hset j hji]
              have := hT j oj hoj
              simpa [hs', hji] using this
          · by_cases hji : j = i
            · subst hji; exact hli
            · have := ht j oj hoj hdj; rwa [hset j hji] at this
        | some d =>
          refine ⟨upd r' d v, hs', by rw [fr_put], hH2, fun j oj hoj => ?_, fun t ht => ?_⟩
          · by_cases hji : j = i
            · subst hji
              rw [ho] at hoj; cases hoj
              rw [if_pos hseti]
              refine .inl ⟨by rw [hd]; rfl, ?_⟩
              rw [hd] at hTi
              simp only [slot, hd, upd_same, hs', if_true]; exact hTi
            · rw [hset j hji]
              have := hT j oj hoj
              have hne : oj.dst ≠ some d := hdist j oj d hoj hji hd
              have hsl : slot (upd r' d v) oj = slot r' oj := by
                unfold slot
                cases hdj : oj.dst with
                | none => rfl
                | some t => exact upd_ne _ _ (fun e => hne (by rw [hdj, e]))
              simpa [hs', hji, hsl] using this
          · have hne : t ≠ d := by
              rintro rfl
              have := ht i o ho hd
              rw [hseti] at this; cases this
            rw [upd_ne _ _ hne]
            refine hold t fun j oj hoj hdj => ?_
            by_cases hji : j = i
            · subst hji; exact hli
            · have := ht j oj hoj hdj; rwa [hset j hji] at this
      · have : (List.range ops.length).countP (fun j => !(listed.setIfInBounds i true).getD j false) < (List.range ops.length).countP (fun j => !listed.getD j false) := by
          have hset : ∀ j, j ≠ i → (listed.setIfInBounds i true).getD j false = listed.getD j false := fun j hj => getD_set_ne false (Ne.symm hj)
          have hseti : (listed.setIfInBounds i true).getD i false = true := by
            have : i < listed.size := by omega
            simp [this]
          rw [hsplit, List.countP_append, List.countP_cons, List.countP_append, List.countP_cons, hseti, hli]
          have e1 : (List.range i).countP (fun j => !(listed.setIfInBounds i true).getD j false) = (List.range i).countP (fun j => !listed.getD j false) :=
            List.countP_congr fun j hj => by have := List.mem_range.1 hj; rw [hset j (by omega)]
          have e2 : (List.range' (i + 1) (ops.length - (i + 1))).countP (fun j => !(listed.setIfInBounds i true).getD j false) = (List.range' (i + 1) (ops.length - (i + 1))).countP (fun j => !listed.getD j false) :=
            List.countP_congr fun j hj => by have := List.mem_range'_1.1 hj; rw [hset j (by omega)]
          rw [e1, e2]; simp
        omega
  have h0 : Inv (Array.replicate ops.toArray.size false) (Go.Q.fr N r) { w with drawn := w.drawn + 1 } := by
    have hf : ∀ i, (Array.replicate ops.toArray.size false).getD i false = false := by
      intro i; by_cases h : i < ops.length <;> simp [h]
    refine ⟨by simp, fun i hi => ?_, r, C, rfl, H.drew _, fun i o _ => ?_, fun _ _ => rfl⟩
    · rw [hf] at hi; cases hi
    · rw [if_neg (by rw [hf]; simp)]
  refine key _ _ _ _ h0 ?_
  refine Nat.le_trans List.countP_le_length (by simp)

/-- May slot t be read at i's turn as it was ahead of the region? -/
def oldB (ops : List Oper) (i t : Nat) : Bool := (List.range ops.length).all fun j => match ops[j]? with
  | some o => o.dst != some t || j == i || anc ops ops.length j i
  | none => true
theorem Turn.was {E : World} {ops : List Oper} {F : List (List Hp)} {C : Nat → List Hp} {Tp : Nat → Value → List Hp → Prop} {N : Nat} {r : Nat → Value} {i : Nat} {r' : Nat → Value} {w : World} {G : List (List Hp)} {hs : Nat → List Hp}
    (H : Turn E ops F C Tp N r i r' w G hs) (t : Nat) (h : oldB ops i t = true) : r' t = r t := by
  refine H.old t fun j o ho hd => ?_
  unfold oldB at h
  rw [List.all_eq_true] at h
  have := h j (List.mem_range.2 (List.getElem?_eq_some_iff.1 ho).1)
  simp only [ho, Bool.or_eq_true, bne_iff_ne, beq_iff_eq] at this
  rcases this with (h | h) | h
  · exact absurd hd h
  · exact .inl h
  · exact .inr h
theorem flow_has {E w : World} {F cs : List (List Hp)} {C : Nat → List Hp} {n : Nat} (H : Has E w (F ++ cs)) (h : ((List.range n).map C).flatten = cs.flatten) : Has E w (F ++ (List.range n).map C) := by
  unfold Has at *; rw [List.flatten_append, h, ← List.flatten_append]; exact H
theorem flow_back {E w : World} {F cs : List (List Hp)} {C : Nat → List Hp} {n : Nat} (H : Has E w (F ++ (List.range n).map C)) (h : ((List.range n).map C).flatten = cs.flatten) : Has E w (F ++ cs) := by
  unfold Has at *; rw [List.flatten_append, ← h, ← List.flatten_append]; exact H
theorem sl_lit {α : Type} {f : α → Value} {l : List α} {b : Nat} {c : Array Value} {T : TypeId} {g : Nat × Nat} {n : Nat} (hc : c.toList = l.map f) (hn : l.length = n) (hm : n ≤ 9223372036854775807) :
    Sl [Hp.one b (.cells c T g)] 1 (.slice (some ⟨b, 0, none⟩) n n) l.length (l.map f) := by
  subst hn
  refine ⟨_, _, rfl, Nat.le_refl _, hm, by simp, fun _ => ⟨b, 0, rfl, CellsAt.one ?_⟩⟩
  rw [hc]; simp only [List.drop_zero]; exact List.take_of_length_le (by simp)
theorem sub_r {L s : List Hp} {G : List (List Hp)} (h : L ⊆ G.flatten) : L ⊆ (s :: G).flatten := fun _ hx => by simp only [List.flatten_cons]; exact List.mem_append_right _ (h hx)
theorem sub_l {s : List Hp} {G : List (List Hp)} : s ⊆ (s :: G).flatten := fun _ hx => by simp only [List.flatten_cons]; exact List.mem_append_left _ hx
section args
variable {ρ : Operand → Value} {a b c d e f : Operand} {u v x y z t : Value}
theorem args0 : #[] ++ (#[] : Array Operand).map ρ ++ #[] = #[] := by simp
theorem args1 (h1 : ρ a = u) : #[] ++ #[a].map ρ ++ #[] = #[u] := by simp [*]
theorem args2 (h1 : ρ a = u) (h2 : ρ b = v) : #[] ++ #[a, b].map ρ ++ #[] = #[u, v] := by simp [*]
theorem args3 (h1 : ρ a = u) (h2 : ρ b = v) (h3 : ρ c = x) : #[] ++ #[a, b, c].map ρ ++ #[] = #[u, v, x] := by simp [*]
theorem args4 (h1 : ρ a = u) (h2 : ρ b = v) (h3 : ρ c = x) (h4 : ρ d = y) : #[] ++ #[a, b, c, d].map ρ ++ #[] = #[u, v, x, y] := by simp [*]
theorem args5 (h1 : ρ a = u) (h2 : ρ b = v) (h3 : ρ c = x) (h4 : ρ d = y) (h5 : ρ e = z) : #[] ++ #[a, b, c, d, e].map ρ ++ #[] = #[u, v, x, y, z] := by simp [*]
theorem args6 (h1 : ρ a = u) (h2 : ρ b = v) (h3 : ρ c = x) (h4 : ρ d = y) (h5 : ρ e = z) (h6 : ρ f = t) : #[] ++ #[a, b, c, d, e, f].map ρ ++ #[] = #[u, v, x, y, z, t] := by simp [*]
theorem parts0 : (#[] : Array (Nat × Operand)).map (fun (i, x) => (i, ρ x)) = #[] := by simp
theorem parts1 {i : Nat} (h1 : ρ a = u) : #[(i, a)].map (fun (i, x) => (i, ρ x)) = #[(i, u)] := by simp [*]
theorem parts2 {i j : Nat} (h1 : ρ a = u) (h2 : ρ b = v) : #[(i, a), (j, b)].map (fun (i, x) => (i, ρ x)) = #[(i, u), (j, v)] := by simp [*]
theorem parts3 {i j k : Nat} (h1 : ρ a = u) (h2 : ρ b = v) (h3 : ρ c = x) : #[(i, a), (j, b), (k, c)].map (fun (i, x) => (i, ρ x)) = #[(i, u), (j, v), (k, x)] := by simp [*]
theorem parts4 {i j k l : Nat} (h1 : ρ a = u) (h2 : ρ b = v) (h3 : ρ c = x) (h4 : ρ d = y) : #[(i, a), (j, b), (k, c), (l, d)].map (fun (i, x) => (i, ρ x)) = #[(i, u), (j, v), (k, x), (l, y)] := by simp [*]
theorem parts5 {i j k l m : Nat} (h1 : ρ a = u) (h2 : ρ b = v) (h3 : ρ c = x) (h4 : ρ d = y) (h5 : ρ e = z) : #[(i, a), (j, b), (k, c), (l, d), (m, e)].map (fun (i, x) => (i, ρ x)) = #[(i, u), (j, v), (k, x), (l, y), (m, z)] := by simp [*]
end args
def by8 (x : Int) : UInt8 := UInt8.ofNat (x % 256).toNat
theorem wrap_by8 (x : Int) : IntKind.wrap .u8 x = ((by8 x).toNat : Int) := by
  unfold by8
  have h0 : 0 ≤ x % 256 := Int.emod_nonneg _ (by omega)
  have h1 : x % 256 < 256 := Int.emod_lt_of_pos _ (by omega)
  rw [UInt8.toNat_ofNat']
  simp only [IntKind.wrap, IntKind.bits, IntKind.signed]
  have : (x % 256).toNat % 2 ^ 8 = (x % 256).toNat := Nat.mod_eq_of_lt (by omega)
  rw [this]
  simp
  omega
theorem Has.first {E w : World} {ss ts : List (List Hp)} (H : Has E w ss) (n : Nat) (h : ss.take n = ts) : Has E w ts := h ▸ H.sub (List.take_sublist _ _)
theorem Has.nil {E w : World} {ss : List (List Hp)} (H : Has E w ss) : Has E w ([] :: ss) := by unfold Has at *; simpa using H
theorem not_dec {p : Prop} [Decidable p] : (!decide p) = decide (¬ p) := by simp
theorem sl_nil {L : List Hp} (sz : Nat) : Sl L sz (.slice none 0 0) 0 [] := ⟨none, 0, rfl, Nat.le_refl _, by omega, by simp, fun h => by omega⟩
def sV (l : List UInt8) : Value := S l
theorem one_iV (l : List Int) : ∀ u ∈ l.map iV, u.oneCell' = true := by intro u hu; obtain ⟨x, _, rfl⟩ := List.mem_map.1 hu; rfl
theorem one_bV (l : List UInt8) : ∀ u ∈ l.map bV, u.oneCell' = true := by intro u hu; obtain ⟨x, _, rfl⟩ := List.mem_map.1 hu; rfl
theorem one_sV (l : List (List UInt8)) : ∀ u ∈ l.map sV, u.oneCell' = true := by intro u hu; obtain ⟨x, _, rfl⟩ := List.mem_map.1 hu; rfl
theorem Own.app {α : Type} {f : α → Value} {e : TypeId} {sz n m : Nat} {v : Value} {a b : List α} {hs : List Hp} (H : Own e sz v (n + m) (a.map f ++ b.map f) hs) (hn : n = a.length := by rfl) (hm : m = b.length := by rfl) :
    Own e sz v (a ++ b).length ((a ++ b).map f) hs := by
  subst hn hm
  rw [List.length_append, List.map_append]; exact H
section ops
variable {P : Program} {ρ : Operand → Value} {E w : World} {ss : List (List Hp)} {K : Value → World → Prop} {dst : Option Tmp} {T : TypeId} {pos : String} {after : Array Edge} {g : Option (Nat × Bool)}
theorem o_pick_t {c x y : Operand} {u : Value} (hc : ρ c = .bool true) (hx : ρ x = u) (h : K u w) : OK P ⟨dst, .pick c x y, T, pos, after, g⟩ ρ w K :=
  o_pick hc rfl rfl (by rw [hx]; exact h)
theorem o_pick_f {c x y : Operand} {u : Value} (hc : ρ c = .bool false) (hy : ρ y = u) (h : K u w) : OK P ⟨dst, .pick c x y, T, pos, after, g⟩ ρ w K :=
  o_pick hc rfl rfl (by rw [hy]; exact h)
/-- string(b) -/
theorem o_bstr {s e t : TypeId} {x : Operand} {v : Value} {L : List Hp} {n : Nat} {l : List UInt8} (hs : P.underlying s = some (.slice e)) (he : P.underlying e = some (.int .u8)) (ht : P.underlying t = some .string)
    (hx : ρ x = v) (hr : Sl L 1 v n (l.map bV)) (H : Has E w ss) (hL : L ⊆ ss.flatten) (hK : K (S l) w) : OK P ⟨dst, .convert s t x, T, pos, after, g⟩ ρ w K := by
  refine OK.val (run_v ?_) hK
  obtain ⟨p, cap, rfl, _, _, hl, hp⟩ := hr
  rw [hx, run_convert_bytes_string w s t e p n cap hs he ht]
  have fold : ∀ (l : List UInt8) (b : ByteArray), (l.map fun c => ((c.toNat : Nat) : Int)).foldl (fun r n => r.push (UInt8.ofNat n.toNat)) b = ⟨b.data ++ l.toArray⟩ := by
    intro l
    induction l with
    | nil => intro b; simp
    | cons c l ih => intro b; simp only [List.map_cons, List.foldl_cons]; rw [ih]; apply ByteArray.ext; simp [ByteArray.push]
  have hn : l.length = n := by simpa using hl
  by_cases h0 : n = 0
  · subst h0
    obtain rfl : l = [] := by simpa using hn
    cases p with
    | none => simp [Conv.bytesToString, S]; rfl
    | some a =>
      have := run_bytesToString (P := P) w a 0 cap [] (by simp [loadCells, loadCellsFrom])
      rw [this]; simp [S]; rfl
  · obtain ⟨b, off, rfl, hc⟩ := hp (by omega)
    have := run_bytesToString (P := P) w ⟨b, off, none⟩ n cap (l.map fun c => ((c.toNat : Nat) : Int)) (by
      have h := run_loadCells_list (P := P) (w := w) ⟨b, off, none⟩ (l.map bV) (fun j v hv => by rw [add_lit]; exact H.cell hL hc hv)
      rw [List.length_map, hn] at h
      rw [h, List.map_map]; rfl)
    rw [this, fold]
    simp [S]
theorem o_sstr {s t : TypeId} {x : Operand} {l : List UInt8} (hs : P.underlying s = some .string) (ht : P.underlying t = some .string) (hx : ρ x = S l) (hK : K (S l) w) : OK P ⟨dst, .convert s t x, T, pos, after, g⟩ ρ w K := by
  refine OK.val (run_v ?_) hK
  rw [hx]; unfold S
  simp [convert, run_underlying hs, run_underlying ht]
theorem o_build {t : TypeId} {parts : Array (Nat × Operand)} {ps : Array (Nat × Value)} {v : Value} (hp : parts.map (fun (i, x) => (i, ρ x)) = ps) (hr : ∀ w, (Instr.build t ps).run P w = .ok v w) (hK : K v w) :
    OK P ⟨dst, .build t parts, T, pos, after, g⟩ ρ w K := OK.val (run_v (by rw [show (parts.map fun (i, x) => (i, ρ x)) = ps from hp]; exact hr w)) hK
end ops
theorem s_offu {P : Program} {ops : List Oper} {Q : Exit → Act → World → Prop} {w : World} {rest : List Oper} {N : Nat} {r : Nat → Value} {d : Nat} {op : Op} {T : TypeId} {pos : String} {after : Array Edge} {g : Nat} {b : Bool} (t : Nat)
    (hgt : dstOf ops g = some t) (hv : ev N r (.tmp t) = undef) (h : wpList P ops.toArray Q rest (fr N (upd r d undef)) w) :
    wpList P ops.toArray Q (⟨some d, op, T, pos, after, some (g, b)⟩ :: rest) (fr N r) w := by
  obtain ⟨og, hg, ht⟩ := dstOf_spec ops g hgt
  have hy : yielded ops.toArray (fr N r).tmps g = none := by
    simp only [yielded, hg, ht, Option.bind_some, fr_at]
    by_cases h : t < N
    · have hb : Nat.blt t N = true := by simpa using h
      simp only [ev, hb] at hv
      have hv' : r t = undef := hv
      rw [if_pos h, hv']; rfl
    · rw [if_neg h]
  have hw : Region.wanted ⟨some d, op, T, pos, after, some (g, b)⟩ (yielded ops.toArray (fr N r).tmps) = false := by
    simp only [Region.wanted, hy]; cases b <;> rfl
  unfold wpList
  rw [if_neg (by rw [hw]; simp), fr_put]
  exact h
theorem shr_lit (x : Int) {k : Int} {m : Nat} {d : Int} (hd : 0 ≤ d) (h : (2 : Int) ^ (min k.toNat m) = d) : x.fdiv (2 ^ (min k.toNat m)) = x / d := by
  rw [h]; exact Int.fdiv_eq_ediv_of_nonneg _ hd
theorem shl_lit {x : Int} {k : Int} {m : Nat} {d : Int} (h0 : -9223372036854775808 ≤ x * d) (h1 : x * d ≤ 9223372036854775807) (h : (2 : Int) ^ (min k.toNat m) = d) :
    IntKind.wrap .i64 (x * 2 ^ (min k.toNat m)) = x * d := by rw [h]; exact w64 h0 h1
theorem first_byte {s : List UInt8} {b : UInt8} (h : s[0]? = some b) (hb : b.toNat ≤ 127) : ∀ c, s[0]? = some c → c.toNat ≤ 127 := by
  intro c hc; rw [h] at hc; cases hc; exact hb
end Go.Q
namespace Go.Q
/-- what the operations have yielded -/
def vsOf (ops : List Oper) (r : Nat → Value) : Nat → Value := fun j => match ops[j]? with | some o => slot r o | none => undef
/-- what those ahead of i have yielded -/
def msk (ops : List Oper) (i : Nat) (vs : Nat → Value) : Nat → Value := fun j => if anc ops ops.length i j = true then vs j else undef
theorem msk_upd {ops : List Oper} {i j d : Nat} {o : Oper} {r : Nat → Value} {v : Value} (hok : flowOk ops = true) (ho : ops[i]? = some o) (hd : o.dst = some d) (h : ∀ k, anc ops ops.length j k = true → k ≠ i) :
    msk ops j (vsOf ops (upd r d v)) = msk ops j (vsOf ops r) := by
  funext k
  unfold msk
  split
  · rename_i hk
    unfold vsOf
    cases hok' : ops[k]? with
    | none => rfl
    | some ok =>
      have hne : ok.dst ≠ some d := (flowOk_spec hok ho).2.2 k ok d hok' (h k hk) hd
      show slot (upd r d v) ok = slot r ok
      unfold slot
      cases hdk : ok.dst with
      | none => rfl
      | some t => exact upd_ne _ _ (fun e => hne (hdk.trans (congrArg some e)))
  · rfl
/-- What an operation of the region is handed when its turn comes. -/
structure Turn2 (E : World) (ops : List Oper) (F : List (List Hp)) (C : Nat → List Hp) (Tp : Nat → Value → List Hp → (Nat → Value) → Prop) (N : Nat) (r : Nat → Value) (i : Nat) (r' : Nat → Value) (w : World) (G : List (List Hp)) (hs : Nat → List Hp) : Prop where
  has : Has E w (C i :: G)
  fr : ∀ s ∈ F, s ⊆ G.flatten
  done : ∀ j o, ops[j]? = some o → anc ops ops.length i j = true → Tp j (slot r' o) (hs j) (msk ops j (vsOf ops r')) ∧ hs j ⊆ G.flatten
  todo : ∀ j, anc ops ops.length j i = true → C j ⊆ G.flatten
  old : ∀ t, (∀ j o, ops[j]? = some o → o.dst = some t → j = i ∨ anc ops ops.length j i = true) → r' t = r t
  each : ∀ j o, ops[j]? = some o → j ≠ i → C j ⊆ G.flatten ∨ (∃ v m, Tp j v (hs j) m) ∧ hs j ⊆ G.flatten

theorem c_flow2 {P : Program} {Q : Exit → Act → World → Prop} {E w : World} {N : Nat} {r : Nat → Value} {id : Nat} {ops : List Oper} (F : List (List Hp)) (C : Nat → List Hp) (Tp : Nat → Value → List Hp → (Nat → Value) → Prop)
    (hm : P.follows .mixedOrders = true) (hok : flowOk ops = true) (H : Has E w (F ++ (List.range ops.length).map C))
    (step : ∀ i o, ops[i]? = some o → ∀ r' w' G hs, Turn2 E ops F C Tp N r i r' w' G hs → OK P o (ev N r') w' fun v w'' => ∃ h', Tp i (match o.dst with | some _ => v | none => undef) h' (msk ops i (vsOf ops r')) ∧ Has E w'' (h' :: G))
    (fin : ∀ (vs : Nat → Value) (hs : Nat → List Hp) w', (∀ i o, ops[i]? = some o → Tp i (vs i) (hs i) (msk ops i vs)) → Has E w' (F ++ (List.range ops.length).map hs) → Q .normal (Go.Q.fr N (puts vs ops 0 r)) w') :
    (Code.region id ops.toArray true).wp P Q (Go.Q.fr N r) w := by
  refine wp_region_any hm ?_
  -- the state while some are done
  let Inv : Array Bool → Act → World → Prop := fun listed a w => listed.size = ops.length ∧ (∀ i, listed.getD i false = true → ∀ d ∈ depsOf ops i, listed.getD d false = true) ∧
    ∃ r' hs, a = Go.Q.fr N r' ∧ Has E w (F ++ (List.range ops.length).map hs) ∧ (∀ i o, ops[i]? = some o → if listed.getD i false = true then o.dst.isSome = true ∧ Tp i (slot r' o) (hs i) (msk ops i (vsOf ops r')) ∨ o.dst = none ∧ Tp i undef (hs i) (msk ops i (vsOf ops r')) else hs i = C i) ∧
    (∀ t, (∀ i o, ops[i]? = some o → o.dst = some t → listed.getD i false = false) → r' t = r t)
  have key : ∀ fuel listed a w, Inv listed a w → (List.range ops.length).countP (fun i => !listed.getD i false) ≤ fuel → wpAny P .any ops.toArray Q fuel listed a w := by
    have ready0 : ∀ listed : Array Bool, listed.size = ops.length → Region.ready .any ops.toArray listed = [] → ∀ i, i < ops.length → listed.getD i false = true := by
      intro listed hsz hr i
      induction i using Nat.strongRecOn with
      | _ i ih =>
        intro hi
        cases hl : listed.getD i false with
        | true => rfl
        | false =>
          exfalso
          obtain ⟨o, ho⟩ : ∃ o, ops[i]? = some o := ⟨_, List.getElem?_eq_getElem hi⟩
          have : i ∈ Region.ready .any ops.toArray listed := by
            refine mem_ready.2 ⟨?_, o, by simpa using ho, fun e he hb => ?_⟩
            · have : i < listed.size := by omega
              simp [this] at hl ⊢; exact hl
            · have hd := mem_depsOf ho he hb
              have hlt := (flowOk_spec hok ho).2.1 _ hd
              exact ih _ hlt (by omega)
          rw [hr] at this; cases this
    have fin' : ∀ listed a w, Inv listed a w → Region.ready .any ops.toArray listed = [] → Q .normal a w := by
      rintro listed a w ⟨hsz, _, r', hs, rfl, hH, hT, hold⟩ hr
      have hall := ready0 listed hsz hr
      let vs : Nat → Value := vsOf ops r'
      have e : Go.Q.fr N r' = Go.Q.fr N (puts vs ops 0 r) := by
        refine fr_congr fun t _ => ?_
        by_cases hex : ∃ (i : Nat) (o : Oper), ops[i]? = some o ∧ o.dst = some t
        · obtain ⟨i, o, ho, hd⟩ := hex
          rw [puts_new vs ops 0 i r o t ho hd (fun j o' hj hne => (flowOk_spec hok ho).2.2 j o' t hj hne hd)]
          simp [vs, vsOf, ho, slot, hd]
        · rw [puts_old vs ops 0 r t (fun o ho hd => by obtain ⟨j, hj⟩ := List.getElem?_of_mem ho; exact hex ⟨j, o, hj, hd⟩)]
          exact hold t (fun i o ho hd => absurd ⟨i, o, ho, hd⟩ hex)
      rw [e]
      refine fin vs hs w (fun i o ho => ?_) hH
      have := hT i o ho
      rw [if_pos (hall i (List.getElem?_eq_some_iff.1 ho).1)] at this
      have hvs : vs i = slot r' o := by simp only [vs, vsOf, ho]
      rw [hvs]
      rcases this with ⟨_, h⟩ | ⟨hn, h⟩
      · exact h
      · unfold slot; rw [hn]; exact h
    intro fuel
    induction fuel with
    | zero =>
      intro listed a w hI hc
      have hr : Region.ready .any ops.toArray listed = [] := by
        rw [List.eq_nil_iff_forall_not_mem]
        intro i hi
        obtain ⟨h0, o, ho, _⟩ := mem_ready.1 hi
        have hlt : i < ops.length := by simpa using (Array.getElem?_eq_some_iff.1 ho).1
        have : listed.getD i false = false := by
          have hs : i < listed.size := by rw [hI.1]; exact hlt
          simp [hs] at h0 ⊢; exact h0
        have hp : 0 < (List.range ops.length).countP (fun i => !listed.getD i false) := List.countP_pos_iff.2 ⟨i, List.mem_range.2 hlt, by rw [this]; rfl⟩
        omega
      exact ⟨hr, fin' listed a w hI hr⟩
    | succ fuel ih =>
      intro listed a w hI hc
      refine ⟨fin' listed a w hI, fun i hi => ?_⟩
      obtain ⟨hsz, hcl, r', hs, rfl, hH, hT, hold⟩ := hI
      obtain ⟨h0, o, ho', hdone⟩ := mem_ready.1 hi
      have ho : ops[i]? = some o := by simpa using ho'
      have hlt : i < ops.length := (List.getElem?_eq_some_iff.1 ho).1
      have hli : listed.getD i false = false := by
        have hs : i < listed.size := by omega
        simp [hs] at h0 ⊢; exact h0
      obtain ⟨hg, hdlt, hdist⟩ := flowOk_spec hok ho
      have hdeps : ∀ d ∈ depsOf ops i, listed.getD d false = true := by
        intro d hd
        unfold depsOf at hd
        rw [ho] at hd
        obtain ⟨e, he, heq⟩ := List.mem_filterMap.1 hd
        split at heq
        · cases heq; exact hdone e (by simpa using he) (by assumption)
        · cases heq
      -- the heaplets: the one at i in front
      let G : List (List Hp) := F ++ ((List.range i).map hs ++ (List.range' (i + 1) (ops.length - (i + 1))).map hs)
      have hsplit : List.range ops.length = List.range i ++ i :: List.range' (i + 1) (ops.length - (i + 1)) := by
        rw [List.range_eq_range', List.range_eq_range', show i :: List.range' (i + 1) (ops.length - (i + 1)) = List.range' i (ops.length - i) from by
          rw [show ops.length - i = (ops.length - (i + 1)) + 1 by omega, List.range'_succ]]
        have := List.range'_append_1 (s := 0) (m := i) (n := ops.length - i)
        rw [Nat.zero_add] at this
        rw [this]; congr 1; omega
      have mapsplit : ∀ f : Nat → List Hp, (List.range ops.length).map f = (List.range i).map f ++ f i :: (List.range' (i + 1) (ops.length - (i + 1))).map f := by
        intro f; rw [hsplit]; simp
      have hperm : ∀ f : Nat → List Hp, (F ++ (List.range ops.length).map f).Perm (f i :: (F ++ ((List.range i).map f ++ (List.range' (i + 1) (ops.length - (i + 1))).map f))) := by
        intro f
        rw [mapsplit f, ← List.append_assoc, ← List.append_assoc]
        exact List.perm_middle
      have hhi : hs i = C i := by have := hT i o ho; rw [if_neg (by rw [hli]; simp)] at this; exact this
      have inG : ∀ j, j < ops.length → j ≠ i → hs j ∈ G := by
        intro j hj hne
        refine List.mem_append_right _ ?_
        rcases Nat.lt_or_gt_of_ne hne with h | h
        · exact List.mem_append_left _ (List.mem_map.2 ⟨j, List.mem_range.2 h, rfl⟩)
        · exact List.mem_append_right _ (List.mem_map.2 ⟨j, by rw [List.mem_range'_1]; omega, rfl⟩)
      have subG : ∀ s ∈ G, s ⊆ G.flatten := fun s hs' x hx => List.mem_flatten.2 ⟨s, hs', hx⟩
      have ancNe : ∀ j, listed.getD j false = true → j ≠ i := fun j hj e => by rw [e, hli] at hj; cases hj
      have turn : Turn2 E ops F C Tp N r i r' w G hs := by
        refine ⟨?_, fun s hs' => subG s (List.mem_append_left _ hs'), fun j oj hoj hanc => ?_, fun j hanc => ?_, fun t ht => ?_, fun j oj hoj hne => ?_⟩
        · rw [← hhi]; exact hH.perm (hperm hs).symm
        · have hl := anc_trans hok hcl _ i j hanc hdeps
          refine ⟨?_, subG _ (inG j (List.getElem?_eq_some_iff.1 hoj).1 (ancNe j hl))⟩
          have := hT j oj hoj
          rw [if_pos hl] at this
          rcases this with ⟨_, h⟩ | ⟨hn, h⟩
          · exact h
          · unfold slot; rw [hn]; exact h
        · cases hj : ops[j]? with
          | none =>
            exfalso
            unfold anc at hanc
            split at hanc
            · cases hanc
            · simp [depsOf, hj] at hanc
          | some oj =>
            have hnl : listed.getD j false = false := by
              cases hl : listed.getD j false with
              | false => rfl
              | true =>
                have := anc_trans hok hcl _ j i hanc (hcl j hl)
                rw [hli] at this; cases this
            have hjl := (List.getElem?_eq_some_iff.1 hj).1
            have hne : j ≠ i := by
              rintro rfl
              have := anc_trans hok hcl _ j j hanc hdeps
              rw [hli] at this; cases this
            have := hT j oj hj
            rw [if_neg (by rw [hnl]; simp)] at this
            rw [← this]; exact subG _ (inG j hjl hne)
        · refine hold t (fun j oj hoj hd => ?_)
          rcases ht j oj hoj hd with rfl | hanc
          · exact hli
          · cases hl : listed.getD j false with
            | false => rfl
            | true =>
              have := anc_trans hok hcl _ j i hanc (hcl j hl)
              rw [hli] at this; cases this
        · have hG := subG _ (inG j (List.getElem?_eq_some_iff.1 hoj).1 hne)
          have := hT j oj hoj
          cases hl : listed.getD j false with
          | true =>
            rw [if_pos hl] at this
            rcases this with ⟨_, h⟩ | ⟨_, h⟩
            · exact .inr ⟨⟨_, _, h⟩, hG⟩
            · exact .inr ⟨⟨_, _, h⟩, hG⟩
          | false =>
            rw [if_neg (by rw [hl]; simp)] at this
            rw [← this]; exact .inl hG
      have hstep := step i o ho r' w G hs turn
      unfold wpOp
      simp only [show ops.toArray[i]? = some o from ho']
      rw [if_pos (by simp [Region.wanted, hg])]
      refine .inl (OK.wp ?_)
      rw [fr_eval]
      refine hstep.mono fun v w'' ⟨h', hTi, hH'⟩ => ?_
      refine ih _ _ _ ⟨by simpa using hsz, ?_, ?_⟩ ?_
      · intro j hj d hd
        by_cases hji : i = j
        · subst hji; exact getD_set_true (hdeps d hd)
        · rw [getD_set_ne false hji] at hj
          exact getD_set_true (hcl j hj d hd)
      · let hs' : Nat → List Hp := fun j => if j = i then h' else hs j
        have hsG : F ++ ((List.range i).map hs' ++ (List.range' (i + 1) (ops.length - (i + 1))).map hs') = G := by
          have e1 : (List.range i).map hs' = (List.range i).map hs := List.map_congr_left fun j hj => by
            have := List.mem_range.1 hj; simp only [hs']; rw [if_neg (by omega)]
          have e2 : (List.range' (i + 1) (ops.length - (i + 1))).map hs' = (List.range' (i + 1) (ops.length - (i + 1))).map hs := List.map_congr_left fun j hj => by
            have := List.mem_range'_1.1 hj; simp only [hs']; rw [if_neg (by omega)]
          rw [e1, e2]
        have hH2 : Has E w'' (F ++ (List.range ops.length).map hs') := by
          refine hH'.perm ((hperm hs').trans ?_)
          rw [hsG]
          simp [hs']
        have hset : ∀ j, j ≠ i → (listed.setIfInBounds i true).getD j false = listed.getD j false := fun j hj => getD_set_ne false (Ne.symm hj)
        have hseti : (listed.setIfInBounds i true).getD i false = true := by
          have : i < listed.size := by omega
          simp [this]
        cases hd : o.dst with
        | none =>
          refine ⟨r', hs', by rw [fr_put_none], hH2, fun j oj hoj => ?_, fun t ht => hold t fun j oj hoj hdj => ?_⟩
          · by_cases hji : j = i
            · subst hji
              rw [ho] at hoj; cases hoj
              rw [if_pos hseti]
              rw [hd] at hTi
              exact .inr ⟨hd, by simpa [hs'] using hTi⟩
            · rw [hset j hji]
              have := hT j oj hoj
              simpa [hs', hji] using this
          · by_cases hji : j = i
            · subst hji; exact hli
            · have := ht j oj hoj hdj; rwa [hset j hji] at this
        | some d =>
          refine ⟨upd r' d v, hs', by rw [fr_put], hH2, fun j oj hoj => ?_, fun t ht => ?_⟩
          · by_cases hji : j = i
            · subst hji
              rw [ho] at hoj; cases hoj
              rw [if_pos hseti]
              refine .inl ⟨by rw [hd]; rfl, ?_⟩
              rw [hd] at hTi
              rw [msk_upd hok ho hd (fun k hk => ancNe k (anc_trans hok hcl _ j k hk hdeps))]
              simp only [slot, hd, upd_same, hs', if_true]; exact hTi
            · rw [hset j hji]
              have := hT j oj hoj
              have hne : oj.dst ≠ some d := hdist j oj d hoj hji hd
              have hsl : slot (upd r' d v) oj = slot r' oj := by
                unfold slot
                cases hdj : oj.dst with
                | none => rfl
                | some t => exact upd_ne _ _ (fun e => hne (by rw [hdj, e]))
              cases hlj : listed.getD j false with
              | true =>
                rw [msk_upd hok ho hd (fun k hk => ancNe k (anc_trans hok hcl _ j k hk (hcl j hlj)))]
                simpa [hs', hji, hsl, hlj] using this
              | false => simpa [hs', hji, hlj] using this
          · have hne : t ≠ d := by
              rintro rfl
              have := ht i o ho hd
              rw [hseti] at this; cases this
            rw [upd_ne _ _ hne]
            refine hold t fun j oj hoj hdj => ?_
            by_cases hji : j = i
            · subst hji; exact hli
            · have := ht j oj hoj hdj; rwa [hset j hji] at this
      · have : (List.range ops.length).countP (fun j => !(listed.setIfInBounds i true).getD j false) < (List.range ops.length).countP (fun j => !listed.getD j false) := by
          have hset : ∀ j, j ≠ i → (listed.setIfInBounds i true).getD j false = listed.getD j false := fun j hj => getD_set_ne false (Ne.symm hj)
          have hseti : (listed.setIfInBounds i true).getD i false = true := by
            have : i < listed.size := by omega
            simp [this]
          rw [hsplit, List.countP_append, List.countP_cons, List.countP_append, List.countP_cons, hseti, hli]
          have e1 : (List.range i).countP (fun j => !(listed.setIfInBounds i true).getD j false) = (List.range i).countP (fun j => !listed.getD j false) :=
            List.countP_congr fun j hj => by have := List.mem_range.1 hj; rw [hset j (by omega)]
          have e2 : (List.range' (i + 1) (ops.length - (i + 1))).countP (fun j => !(listed.setIfInBounds i true).getD j false) = (List.range' (i + 1) (ops.length - (i + 1))).countP (fun j => !listed.getD j false) :=
            List.countP_congr fun j hj => by have := List.mem_range'_1.1 hj; rw [hset j (by omega)]
          rw [e1, e2]; simp
        omega
  have h0 : Inv (Array.replicate ops.toArray.size false) (Go.Q.fr N r) { w with drawn := w.drawn + 1 } := by
    have hf : ∀ i, (Array.replicate ops.toArray.size false).getD i false = false := by
      intro i; by_cases h : i < ops.length <;> simp [h]
    refine ⟨by simp, fun i hi => ?_, r, C, rfl, H.drew _, fun i o _ => ?_, fun _ _ => rfl⟩
    · rw [hf] at hi; cases hi
    · rw [if_neg (by rw [hf]; simp)]
  refine key _ _ _ _ h0 ?_
  refine Nat.le_trans List.countP_le_length (by simp)

theorem Turn2.was {E : World} {ops : List Oper} {F : List (List Hp)} {C : Nat → List Hp} {Tp : Nat → Value → List Hp → (Nat → Value) → Prop} {N : Nat} {r : Nat → Value} {i : Nat} {r' : Nat → Value} {w : World} {G : List (List Hp)} {hs : Nat → List Hp}
    (H : Turn2 E ops F C Tp N r i r' w G hs) (t : Nat) (h : oldB ops i t = true) : r' t = r t := by
  refine H.old t fun j o ho hd => ?_
  unfold oldB at h
  rw [List.all_eq_true] at h
  have := h j (List.mem_range.2 (List.getElem?_eq_some_iff.1 ho).1)
  simp only [ho, Bool.or_eq_true, bne_iff_ne, beq_iff_eq] at this
  rcases this with (h | h) | h
  · exact absurd hd h
  · exact .inl h
  · exact .inr h
end Go.Q
namespace Go.Q
/-- Is a region of that make: each slot written once, all edges lead back? -/
def flowOk3 (ops : List Oper) : Bool :=
  ((List.range ops.length).all fun i => match ops[i]? with
    | some o => (depsOf ops i).all (fun d => decide (d < i)) && (List.range ops.length).all fun j => j == i || match ops[j]? with
      | some o' => o.dst.isNone || o'.dst != o.dst
      | none => true
    | none => true)
theorem flowOk3_spec {ops : List Oper} (h : flowOk3 ops = true) {i : Nat} {o : Oper} (ho : ops[i]? = some o) :
    (∀ d ∈ depsOf ops i, d < i) ∧ ∀ j o' t, ops[j]? = some o' → j ≠ i → o.dst = some t → o'.dst ≠ some t := by
  unfold flowOk3 at h
  rw [List.all_eq_true] at h
  have hi : i < ops.length := (List.getElem?_eq_some_iff.1 ho).1
  have h1 := h i (List.mem_range.2 hi)
  simp only [ho, Bool.and_eq_true, List.all_eq_true, decide_eq_true_eq] at h1
  obtain ⟨hd, hj⟩ := h1
  refine ⟨hd, fun j o' t hj' hne ht => ?_⟩
  have := hj j (List.mem_range.2 (List.getElem?_eq_some_iff.1 hj').1)
  simp only [hj', ht, Option.isNone_some, Bool.false_or, Bool.or_eq_true, beq_iff_eq, bne_iff_ne] at this
  rcases this with h | h
  · exact absurd h hne
  · exact h

theorem anc_trans3 {ops : List Oper} (_h : flowOk3 ops = true) {listed : Array Bool} (hc : ∀ i, listed.getD i false = true → ∀ d ∈ depsOf ops i, listed.getD d false = true) :
    ∀ f i j, anc ops f i j = true → (∀ d ∈ depsOf ops i, listed.getD d false = true) → listed.getD j false = true := by
  intro f
  induction f with
  | zero => intro i j h; simp [anc] at h
  | succ f ih =>
    intro i j h hd
    rw [anc, List.any_eq_true] at h
    obtain ⟨d, hdm, hh⟩ := h
    rw [Bool.or_eq_true] at hh
    rcases hh with e | e
    · rw [← beq_iff_eq.1 e]; exact hd d hdm
    · exact ih d j e (hc d (hd d hdm))

/-- An operation of a region, under its guard. -/
def GOK (P : Program) (ops : List Oper) (o : Oper) (N : Nat) (r : Nat → Value) (w : World) (K : Value → World → Prop) : Prop := match o.guard with
  | none => OK P o (ev N r) w K
  | some (g, b) => ∃ t, dstOf ops g = some t ∧ (ev N r (.tmp t) = .bool b ∧ OK P o (ev N r) w K ∨ ((∃ b', ev N r (.tmp t) = .bool b' ∧ (b' == b) = false) ∨ ev N r (.tmp t) = undef) ∧ K undef w)
theorem GOK.on {P : Program} {ops : List Oper} {o : Oper} {N : Nat} {r : Nat → Value} {w : World} {K : Value → World → Prop} {g t : Nat} {b : Bool} (hg : o.guard = some (g, b)) (ht : dstOf ops g = some t) (hv : ev N r (.tmp t) = .bool b) (h : OK P o (ev N r) w K) : GOK P ops o N r w K := by
  unfold GOK; rw [hg]; exact ⟨t, ht, .inl ⟨hv, h⟩⟩
theorem GOK.off {P : Program} {ops : List Oper} {o : Oper} {N : Nat} {r : Nat → Value} {w : World} {K : Value → World → Prop} {g t : Nat} {b b' : Bool} (hg : o.guard = some (g, b)) (ht : dstOf ops g = some t) (hv : ev N r (.tmp t) = .bool b') (hne : (b' == b) = false) (h : K undef w) : GOK P ops o N r w K := by
  unfold GOK; rw [hg]; exact ⟨t, ht, .inr ⟨.inl ⟨b', hv, hne⟩, h⟩⟩
theorem GOK.offu {P : Program} {ops : List Oper} {o : Oper} {N : Nat} {r : Nat → Value} {w : World} {K : Value → World → Prop} {g t : Nat} {b : Bool} (hg : o.guard = some (g, b)) (ht : dstOf ops g = some t) (hv : ev N r (.tmp t) = undef) (h : K undef w) : GOK P ops o N r w K := by
  unfold GOK; rw [hg]; exact ⟨t, ht, .inr ⟨.inr hv, h⟩⟩
theorem GOK.free {P : Program} {ops : List Oper} {o : Oper} {N : Nat} {r : Nat → Value} {w : World} {K : Value → World → Prop} (hg : o.guard = none) (h : OK P o (ev N r) w K) : GOK P ops o N r w K := by
  unfold GOK; rw [hg]; exact h
theorem GOK.wp {P : Program} {ops : List Oper} {Q : Exit → Act → World → Prop} {o : Oper} {N i : Nat} {r : Nat → Value} {w : World} {K : Value → World → Prop} {K' : Act → World → Prop} (ho : ops.toArray[i]? = some o) (h : GOK P ops o N r w K)
    (hK : ∀ v w'', K v w'' → K' ((Go.Q.fr N r).put o.dst v) w'') : wpOp P ops.toArray Q i K' (Go.Q.fr N r) w := by
  unfold wpOp
  simp only [ho]
  obtain ⟨d, op, T, pos, after, gd⟩ := o
  unfold GOK at h
  cases gd with
  | none =>
    rw [if_pos (by simp [Region.wanted])]
    refine .inl (OK.wp ?_)
    rw [fr_eval]
    exact OK.mono h fun v w'' hk => hK v w'' hk
  | some gb =>
    obtain ⟨g, b⟩ := gb
    obtain ⟨t, ht, h⟩ := h
    obtain ⟨og, hg, ht⟩ := dstOf_spec ops g ht
    rcases h with ⟨hv, h⟩ | ⟨⟨b', hv, hne⟩ | hv, h⟩
    · rw [if_pos (by rw [wanted_fr hg ht hv]; simp)]
      refine .inl (OK.wp ?_)
      rw [fr_eval]
      exact OK.mono h fun v w'' hk => hK v w'' hk
    · rw [if_neg (by rw [wanted_fr hg ht hv, hne]; simp)]
      exact hK _ _ h
    · have hy : yielded ops.toArray (Go.Q.fr N r).tmps g = none := by
        simp only [yielded, hg, ht, Option.bind_some, fr_at]
        by_cases h : t < N
        · have hb : Nat.blt t N = true := by simpa using h
          simp only [ev, hb] at hv
          have hv' : r t = undef := hv
          rw [if_pos h, hv']; rfl
        · rw [if_neg h]
      rw [if_neg (by simp [Region.wanted, hy])]
      exact hK _ _ h
theorem msk_upd3 {ops : List Oper} {i j d : Nat} {o : Oper} {r : Nat → Value} {v : Value} (hok : flowOk3 ops = true) (ho : ops[i]? = some o) (hd : o.dst = some d) (h : ∀ k, anc ops ops.length j k = true → k ≠ i) :
    msk ops j (vsOf ops (upd r d v)) = msk ops j (vsOf ops r) := by
  funext k
  unfold msk
  split
  · rename_i hk
    unfold vsOf
    cases hok' : ops[k]? with
    | none => rfl
    | some ok =>
      have hne : ok.dst ≠ some d := (flowOk3_spec hok ho).2 k ok d hok' (h k hk) hd
      show slot (upd r d v) ok = slot r ok
      unfold slot
      cases hdk : ok.dst with
      | none => rfl
      | some t => exact upd_ne _ _ (fun e => hne (hdk.trans (congrArg some e)))
  · rfl
/-- What an operation of the region is handed when its turn comes. -/
structure Turn3 (E : World) (ops : List Oper) (F : List (List Hp)) (C : Nat → List Hp) (Tp : Nat → Value → List Hp → (Nat → Value) → Prop) (N : Nat) (r : Nat → Value) (i : Nat) (r' : Nat → Value) (w : World) (G : List (List Hp)) (hs : Nat → List Hp) : Prop where
  has : Has E w (C i :: G)
  fr : ∀ s ∈ F, s ⊆ G.flatten
  done : ∀ j o, ops[j]? = some o → anc ops ops.length i j = true → Tp j (slot r' o) (hs j) (msk ops j (vsOf ops r')) ∧ hs j ⊆ G.flatten
  todo : ∀ j, anc ops ops.length j i = true → C j ⊆ G.flatten
  old : ∀ t, (∀ j o, ops[j]? = some o → o.dst = some t → j = i ∨ anc ops ops.length j i = true) → r' t = r t
  each : ∀ j o, ops[j]? = some o → j ≠ i → C j ⊆ G.flatten ∨ (∃ v m, Tp j v (hs j) m) ∧ hs j ⊆ G.flatten

theorem c_flow3 {P : Program} {Q : Exit → Act → World → Prop} {E w : World} {N : Nat} {r : Nat → Value} {id : Nat} {ops : List Oper} (F : List (List Hp)) (C : Nat → List Hp) (Tp : Nat → Value → List Hp → (Nat → Value) → Prop)
    (hm : P.follows .mixedOrders = true) (hok : flowOk3 ops = true) (H : Has E w (F ++ (List.range ops.length).map C))
    (step : ∀ i o, ops[i]? = some o → ∀ r' w' G hs, Turn3 E ops F C Tp N r i r' w' G hs → GOK P ops o N r' w' fun v w'' => ∃ h', Tp i (match o.dst with | some _ => v | none => undef) h' (msk ops i (vsOf ops r')) ∧ Has E w'' (h' :: G))
    (fin : ∀ (vs : Nat → Value) (hs : Nat → List Hp) w', (∀ i o, ops[i]? = some o → Tp i (vs i) (hs i) (msk ops i vs)) → Has E w' (F ++ (List.range ops.length).map hs) → Q .normal (Go.Q.fr N (puts vs ops 0 r)) w') :
    (Code.region id ops.toArray true).wp P Q (Go.Q.fr N r) w := by
  refine wp_region_any hm ?_
  -- the state while some are done
  let Inv : Array Bool → Act → World → Prop := fun listed a w => listed.size = ops.length ∧ (∀ i, listed.getD i false = true → ∀ d ∈ depsOf ops i, listed.getD d false = true) ∧
    ∃ r' hs, a = Go.Q.fr N r' ∧ Has E w (F ++ (List.range ops.length).map hs) ∧ (∀ i o, ops[i]? = some o → if listed.getD i false = true then o.dst.isSome = true ∧ Tp i (slot r' o) (hs i) (msk ops i (vsOf ops r')) ∨ o.dst = none ∧ Tp i undef (hs i) (msk ops i (vsOf ops r')) else hs i = C i) ∧
    (∀ t, (∀ i o, ops[i]? = some o → o.dst = some t → listed.getD i false = false) → r' t = r t)
  have key : ∀ fuel listed a w, Inv listed a w → (List.range ops.length).countP (fun i => !listed.getD i false) ≤ fuel → wpAny P .any ops.toArray Q fuel listed a w := by
    have ready0 : ∀ listed : Array Bool, listed.size = ops.length → Region.ready .any ops.toArray listed = [] → ∀ i, i < ops.length → listed.getD i false = true := by
      intro listed hsz hr i
      induction i using Nat.strongRecOn with
      | _ i ih =>
        intro hi
        cases hl : listed.getD i false with
        | true => rfl
        | false =>
          exfalso
          obtain ⟨o, ho⟩ : ∃ o, ops[i]? = some o := ⟨_, List.getElem?_eq_getElem hi⟩
          have : i ∈ Region.ready .any ops.toArray listed := by
            refine mem_ready.2 ⟨?_, o, by simpa using ho, fun e he hb => ?_⟩
            · have : i < listed.size := by omega
              simp [this] at hl ⊢; exact hl
            · have hd := mem_depsOf ho he hb
              have hlt := (flowOk3_spec hok ho).1 _ hd
              exact ih _ hlt (by omega)
          rw [hr] at this; cases this
    have fin' : ∀ listed a w, Inv listed a w → Region.ready .any ops.toArray listed = [] → Q .normal a w := by
      rintro listed a w ⟨hsz, _, r', hs, rfl, hH, hT, hold⟩ hr
      have hall := ready0 listed hsz hr
      let vs : Nat → Value := vsOf ops r'
      have e : Go.Q.fr N r' = Go.Q.fr N (puts vs ops 0 r) := by
        refine fr_congr fun t _ => ?_
        by_cases hex : ∃ (i : Nat) (o : Oper), ops[i]? = some o ∧ o.dst = some t
        · obtain ⟨i, o, ho, hd⟩ := hex
          rw [puts_new vs ops 0 i r o t ho hd (fun j o' hj hne => (flowOk3_spec hok ho).2 j o' t hj hne hd)]
          simp [vs, vsOf, ho, slot, hd]
        · rw [puts_old vs ops 0 r t (fun o ho hd => by obtain ⟨j, hj⟩ := List.getElem?_of_mem ho; exact hex ⟨j, o, hj, hd⟩)]
          exact hold t (fun i o ho hd => absurd ⟨i, o, ho, hd⟩ hex)
      rw [e]
      refine fin vs hs w (fun i o ho => ?_) hH
      have := hT i o ho
      rw [if_pos (hall i (List.getElem?_eq_some_iff.1 ho).1)] at this
      have hvs : vs i = slot r' o := by simp only [vs, vsOf, ho]
      rw [hvs]
      rcases this with ⟨_, h⟩ | ⟨hn, h⟩
      · exact h
      · unfold slot; rw [hn]; exact h
    intro fuel
    induction fuel with
    | zero =>
      intro listed a w hI hc
      have hr : Region.ready .any ops.toArray listed = [] := by
        rw [List.eq_nil_iff_forall_not_mem]
        intro i hi
        obtain ⟨h0, o, ho, _⟩ := mem_ready.1 hi
        have hlt : i < ops.length := by simpa using (Array.getElem?_eq_some_iff.1 ho).1
        have : listed.getD i false = false := by
          have hs : i < listed.size := by rw [hI.1]; exact hlt
          simp [hs] at h0 ⊢; exact h0
        have hp : 0 < (List.range ops.length).countP (fun i => !listed.getD i false) := List.countP_pos_iff.2 ⟨i, List.mem_range.2 hlt, by rw [this]; rfl⟩
        omega
      exact ⟨hr, fin' listed a w hI hr⟩
    | succ fuel ih =>
      intro listed a w hI hc
      refine ⟨fin' listed a w hI, fun i hi => ?_⟩
      obtain ⟨hsz, hcl, r', hs, rfl, hH, hT, hold⟩ := hI
      obtain ⟨h0, o, ho', hdone⟩ := mem_ready.1 hi
      have ho : ops[i]? = some o := by simpa using ho'
      have hlt : i < ops.length := (List.getElem?_eq_some_iff.1 ho).1
      have hli : listed.getD i false = false := by
        have hs : i < listed.size := by omega
        simp [hs] at h0 ⊢; exact h0
      obtain ⟨hdlt, hdist⟩ := flowOk3_spec hok ho
      have hdeps : ∀ d ∈ depsOf ops i, listed.getD d false = true := by
        intro d hd
        unfold depsOf at hd
        rw [ho] at hd
        obtain ⟨e, he, heq⟩ := List.mem_filterMap.1 hd
        split at heq
        · cases heq; exact hdone e (by simpa using he) (by assumption)
        · cases heq
      -- the heaplets: the one at i in front
      let G : List (List Hp) := F ++ ((List.range i).map hs ++ (List.range' (i + 1) (ops.length - (i + 1))).map hs)
      have hsplit : List.range ops.length = List.range i ++ i :: List.range' (i + 1) (ops.length - (i + 1)) := by
        rw [List.range_eq_range', List.range_eq_range', show i :: List.range' (i + 1) (ops.length - (i + 1)) = List.range' i (ops.length - i) from by
          rw [show ops.length - i = (ops.length - (i + 1)) + 1 by omega, List.range'_succ]]
        have := List.range'_append_1 (s := 0) (m := i) (n := ops.length - i)
        rw [Nat.zero_add] at this
        rw [this]; congr 1; omega
      have mapsplit : ∀ f : Nat → List Hp, (List.range ops.length).map f = (List.range i).map f ++ f i :: (List.range' (i + 1) (ops.length - (i + 1))).map f := by
        intro f; rw [hsplit]; simp
      have hperm : ∀ f : Nat → List Hp, (F ++ (List.range ops.length).map f).Perm (f i :: (F ++ ((List.range i).map f ++ (List.range' (i + 1) (ops.length - (i + 1))).map f))) := by
        intro f
        rw [mapsplit f, ← List.append_assoc, ← List.append_assoc]
        exact List.perm_middle
      have hhi : hs i = C i := by have := hT i o ho; rw [if_neg (by rw [hli]; simp)] at this; exact this
      have inG : ∀ j, j < ops.length → j ≠ i → hs j ∈ G := by
        intro j hj hne
        refine List.mem_append_right _ ?_
        rcases Nat.lt_or_gt_of_ne hne with h | h
        · exact List.mem_append_left _ (List.mem_map.2 ⟨j, List.mem_range.2 h, rfl⟩)
        · exact List.mem_append_right _ (List.mem_map.2 ⟨j, by rw [List.mem_range'_1]; omega, rfl⟩)
      have subG : ∀ s ∈ G, s ⊆ G.flatten := fun s hs' x hx => List.mem_flatten.2 ⟨s, hs', hx⟩
      have ancNe : ∀ j, listed.getD j false = true → j ≠ i := fun j hj e => by rw [e, hli] at hj; cases hj
      have turn : Turn3 E ops F C Tp N r i r' w G hs := by
        refine ⟨?_, fun s hs' => subG s (List.mem_append_left _ hs'), fun j oj hoj hanc => ?_, fun j hanc => ?_, fun t ht => ?_, fun j oj hoj hne => ?_⟩
        · rw [← hhi]; exact hH.perm (hperm hs).symm
        · have hl := anc_trans3 hok hcl _ i j hanc hdeps
          refine ⟨?_, subG _ (inG j (List.getElem?_eq_some_iff.1 hoj).1 (ancNe j hl))⟩
          have := hT j oj hoj
          rw [if_pos hl] at this
          rcases this with ⟨_, h⟩ | ⟨hn, h⟩
          · exact h
          · unfold slot; rw [hn]; exact h
        · cases hj : ops[j]? with
          | none =>
            exfalso
            unfold anc at hanc
            split at hanc
            · cases hanc
            · simp [depsOf, hj] at hanc
          | some oj =>
            have hnl : listed.getD j false = false := by
              cases hl : listed.getD j false with
              | false => rfl
              | true =>
                have := anc_trans3 hok hcl _ j i hanc (hcl j hl)
                rw [hli] at this; cases this
            have hjl := (List.getElem?_eq_some_iff.1 hj).1
            have hne : j ≠ i := by
              rintro rfl
              have := anc_trans3 hok hcl _ j j hanc hdeps
              rw [hli] at this; cases this
            have := hT j oj hj
            rw [if_neg (by rw [hnl]; simp)] at this
            rw [← this]; exact subG _ (inG j hjl hne)
        · refine hold t (fun j oj hoj hd => ?_)
          rcases ht j oj hoj hd with rfl | hanc
          · exact hli
          · cases hl : listed.getD j false with
            | false => rfl
            | true =>
              have := anc_trans3 hok hcl _ j i hanc (hcl j hl)
              rw [hli] at this; cases this
        · have hG := subG _ (inG j (List.getElem?_eq_some_iff.1 hoj).1 hne)
          have := hT j oj hoj
          cases hl : listed.getD j false with
          | true =>
            rw [if_pos hl] at this
            rcases this with ⟨_, h⟩ | ⟨_, h⟩
            · exact .inr ⟨⟨_, _, h⟩, hG⟩
            · exact .inr ⟨⟨_, _, h⟩, hG⟩
          | false =>
            rw [if_neg (by rw [hl]; simp)] at this
            rw [← this]; exact .inl hG
      have hstep := step i o ho r' w G hs turn
      have hnext : ∀ (v : Value) (w'' : World), (∃ h', Tp i (match o.dst with | some _ => v | none => undef) h' (msk ops i (vsOf ops r')) ∧ Has E w'' (h' :: G)) →
          wpAny P .any ops.toArray Q fuel (listed.setIfInBounds i true) ((Go.Q.fr N r').put o.dst v) w'' := ?_
      · exact GOK.wp ho' hstep hnext
      rintro v w'' ⟨h', hTi, hH'⟩
      refine ih _ _ _ ⟨by simpa using hsz, ?_, ?_⟩ ?_
      · intro j hj d hd
        by_cases hji : i = j
        · subst hji; exact getD_set_true (hdeps d hd)
        · rw [getD_set_ne false hji] at hj
          exact getD_set_true (hcl j hj d hd)
      · let hs' : Nat → List Hp := fun j => if j = i then h' else hs j
        have hsG : F ++ ((List.range i).map hs' ++ (List.range' (i + 1) (ops.length - (i + 1))).map hs') = G := by
          have e1 : (List.range i).map hs' = (List.range i).map hs := List.map_congr_left fun j hj => by
            have := List.mem_range.1 hj; simp only [hs']; rw [if_neg (by omega)]
          have e2 : (List.range' (i + 1) (ops.length - (i + 1))).map hs' = (List.range' (i + 1) (ops.length - (i + 1))).map hs := List.map_congr_left fun j hj => by
            have := List.mem_range'_1.1 hj; simp only [hs']; rw [if_neg (by omega)]
          rw [e1, e2]
        have hH2 : Has E w'' (F ++ (List.range ops.length).map hs') := by
          refine hH'.perm ((hperm hs').trans ?_)
          rw [hsG]
          simp [hs']
        have hset : ∀ j, j ≠ i → (listed.setIfInBounds i true).getD j false = listed.getD j false := fun j hj => getD_set_ne false (Ne.symm hj)
        have hseti : (listed.setIfInBounds i true).getD i false = true := by
          have : i < listed.size := by omega
          simp [this]
        cases hd : o.dst with
        | none =>
          refine ⟨r', hs', by rw [fr_put_none], hH2, fun j oj hoj => ?_, fun t ht => hold t fun j oj hoj hdj => ?_⟩
          · by_cases hji : j = i
            · subst hji
              rw [ho] at hoj; cases hoj
              rw [if_pos hseti]
              rw [hd] at hTi
              exact .inr ⟨hd, by simpa [hs'] using hTi⟩
            · rw [hset j hji]
              have := hT j oj hoj
              simpa [hs', hji] using this
          · by_cases hji : j = i
            · subst hji; exact hli
            · have := ht j oj hoj hdj; rwa [hset j hji] at this
        | some d =>
          refine ⟨upd r' d v, hs', by rw [fr_put], hH2, fun j oj hoj => ?_, fun t ht => ?_⟩
          · by_cases hji : j = i
            · subst hji
              rw [ho] at hoj; cases hoj
              rw [if_pos hseti]
              refine .inl ⟨by rw [hd]; rfl, ?_⟩
              rw [hd] at hTi
              rw [msk_upd3 hok ho hd (fun k hk => ancNe k (anc_trans3 hok hcl _ j k hk hdeps))]
              simp only [slot, hd, upd_same, hs', if_true]; exact hTi
            · rw [hset j hji]
              have := hT j oj hoj
              have hne : oj.dst ≠ some d := hdist j oj d hoj hji hd
              have hsl : slot (upd r' d v) oj = slot r' oj := by
                unfold slot
                cases hdj : oj.dst with
                | none => rfl
                | some t => exact upd_ne _ _ (fun e => hne (by rw [hdj, e]))
              cases hlj : listed.getD j false with
              | true =>
                rw [msk_upd3 hok ho hd (fun k hk => ancNe k (anc_trans3 hok hcl _ j k hk (hcl j hlj)))]
                simpa [hs', hji, hsl, hlj] using this
              | false => simpa [hs', hji, hlj] using this
          · have hne : t ≠ d := by
              rintro rfl
              have := ht i o ho hd
              rw [hseti] at this; cases this
            rw [upd_ne _ _ hne]
            refine hold t fun j oj hoj hdj => ?_
            by_cases hji : j = i
            · subst hji; exact hli
            · have := ht j oj hoj hdj; rwa [hset j hji] at this
      · have : (List.range ops.length).countP (fun j => !(listed.setIfInBounds i true).getD j false) < (List.range ops.length).countP (fun j => !listed.getD j false) := by
          have hset : ∀ j, j ≠ i → (listed.setIfInBounds i true).getD j false = listed.getD j false := fun j hj => getD_set_ne false (Ne.symm hj)
          have hseti : (listed.setIfInBounds i true).getD i false = true := by
            have : i < listed.size := by omega
            simp [this]
          rw [hsplit, List.countP_append, List.countP_cons, List.countP_append, List.countP_cons, hseti, hli]
          have e1 : (List.range i).countP (fun j => !(listed.setIfInBounds i true).getD j false) = (List.range i).countP (fun j => !listed.getD j false) :=
            List.countP_congr fun j hj => by have := List.mem_range.1 hj; rw [hset j (by omega)]
          have e2 : (List.range' (i + 1) (ops.length - (i + 1))).countP (fun j => !(listed.setIfInBounds i true).getD j false) = (List.range' (i + 1) (ops.length - (i + 1))).countP (fun j => !listed.getD j false) :=
            List.countP_congr fun j hj => by have := List.mem_range'_1.1 hj; rw [hset j (by omega)]
          rw [e1, e2]; simp
        omega
  have h0 : Inv (Array.replicate ops.toArray.size false) (Go.Q.fr N r) { w with drawn := w.drawn + 1 } := by
    have hf : ∀ i, (Array.replicate ops.toArray.size false).getD i false = false := by
      intro i; by_cases h : i < ops.length <;> simp [h]
    refine ⟨by simp, fun i hi => ?_, r, C, rfl, H.drew _, fun i o _ => ?_, fun _ _ => rfl⟩
    · rw [hf] at hi; cases hi
    · rw [if_neg (by rw [hf]; simp)]
  refine key _ _ _ _ h0 ?_
  refine Nat.le_trans List.countP_le_length (by simp)

theorem Turn3.was {E : World} {ops : List Oper} {F : List (List Hp)} {C : Nat → List Hp} {Tp : Nat → Value → List Hp → (Nat → Value) → Prop} {N : Nat} {r : Nat → Value} {i : Nat} {r' : Nat → Value} {w : World} {G : List (List Hp)} {hs : Nat → List Hp}
    (H : Turn3 E ops F C Tp N r i r' w G hs) (t : Nat) (h : oldB ops i t = true) : r' t = r t := by
  refine H.old t fun j o ho hd => ?_
  unfold oldB at h
  rw [List.all_eq_true] at h
  have := h j (List.mem_range.2 (List.getElem?_eq_some_iff.1 ho).1)
  simp only [ho, Bool.or_eq_true, bne_iff_ne, beq_iff_eq] at this
  rcases this with (h | h) | h
  · exact absurd hd h
  · exact .inl h
  · exact .inr h
end Go.Q
namespace Go.Q
/-- From m on each operation comes behind all that are ahead of it. -/
def seqB (ops : List Oper) (m : Nat) : Bool := (List.range' m (ops.length - m)).all fun i => (List.range i).all fun j => anc ops ops.length i j
theorem seqB_spec {ops : List Oper} {m : Nat} (h : seqB ops m = true) : ∀ i j, m ≤ i → i < ops.length → j < i → anc ops ops.length i j = true := fun i j h1 h2 h3 => by
  unfold seqB at h
  rw [List.all_eq_true] at h
  have := h i (List.mem_range'_1.2 (by omega))
  rw [List.all_eq_true] at this
  exact this j (List.mem_range.2 h3)
theorem seq_any {P : Program} {Q : Exit → Act → World → Prop} {ops : List Oper} (hok : flowOk3 ops = true) : ∀ (n k : Nat) (listed : Array Bool) (a : Act) (w : World), k + n = ops.length → listed.size = ops.length → (∀ i, i < k → listed.getD i false = true) → (∀ i, k ≤ i → listed.getD i false = false) →
    (∀ i j, k ≤ i → i < ops.length → j < i → anc ops ops.length i j = true) → wpOps P ops.toArray Q (List.range' k n) a w → ∀ fuel, n ≤ fuel → wpAny P .any ops.toArray Q fuel listed a w
  | 0, k, listed, a, w, hk, hsz, hall, hnot, hsq, h, fuel, hf => by
    have hr : Region.ready .any ops.toArray listed = [] := by
      rw [List.eq_nil_iff_forall_not_mem]
      intro i hi
      obtain ⟨h0, o, ho, _⟩ := mem_ready.1 hi
      have hlt : i < ops.length := by simpa using (Array.getElem?_eq_some_iff.1 ho).1
      have h1 := hall i (by omega)
      have hs : i < listed.size := by omega
      simp [hs] at h0 h1; rw [h0] at h1; cases h1
    cases fuel with
    | zero => exact ⟨hr, h⟩
    | succ f => exact ⟨fun _ => h, fun i hi => by rw [hr] at hi; cases hi⟩
  | n + 1, k, listed, a, w, hk, hsz, hall, hnot, hsq, h, fuel, hf => by
    obtain ⟨f, rfl⟩ : ∃ f, fuel = f + 1 := ⟨fuel - 1, by omega⟩
    have hlk : k < ops.length := by omega
    have hcl : ∀ i, listed.getD i false = true → ∀ d ∈ depsOf ops i, listed.getD d false = true := fun i hi d hd => by
      have hik : i < k := by
        rcases Nat.lt_or_ge i k with g | g
        · exact g
        · rw [hnot i g] at hi; cases hi
      have := (flowOk3_spec hok (List.getElem?_eq_getElem (show i < ops.length by omega))).1 d hd
      exact hall d (by omega)
    have hkr : k ∈ Region.ready .any ops.toArray listed := by
      refine mem_ready.2 ⟨?_, ops[k], by simp [hlk], fun e he hb => ?_⟩
      · have h1 := hnot k (Nat.le_refl _)
        have hs : k < listed.size := by omega
        simp [hs] at h1 ⊢; exact h1
      · have hd := mem_depsOf (List.getElem?_eq_getElem hlk) he hb
        exact hall _ ((flowOk3_spec hok (List.getElem?_eq_getElem hlk)).1 _ hd)
    refine ⟨fun hr => (by rw [hr] at hkr; cases hkr), fun i hi => ?_⟩
    obtain ⟨h0, o, ho, hdone⟩ := mem_ready.1 hi
    have hlt : i < ops.length := by simpa using (Array.getElem?_eq_some_iff.1 ho).1
    have hli : listed.getD i false = false := by
      have hs : i < listed.size := by omega
      simp [hs] at h0 ⊢; exact h0
    have hdeps : ∀ d ∈ depsOf ops i, listed.getD d false = true := by
      intro d hd
      unfold depsOf at hd
      rw [show ops[i]? = some o by simpa using ho] at hd
      obtain ⟨e, he, heq⟩ := List.mem_filterMap.1 hd
      split at heq
      · cases heq; exact hdone e (by simpa using he) (by assumption)
      · cases heq
    have hik : i = k := by
      rcases Nat.lt_trichotomy i k with g | g | g
      · rw [hall i g] at hli; cases hli
      · exact g
      · have := anc_trans3 hok hcl _ i k (hsq i k (by omega) hlt g) hdeps
        rw [hnot k (Nat.le_refl _)] at this; cases this
    subst hik
    rw [List.range'_succ, wpOps_cons] at h
    refine wpOp_mono (fun a' w' h' => ?_) h
    refine seq_any hok n (i + 1) _ a' w' (by omega) (by simpa using hsz) (fun j hj => ?_) (fun j hj => ?_) (fun j l h1 h2 h3 => hsq j l (by omega) h2 h3) h' f (by omega)
    · by_cases e : i = j
      · subst e
        have : i < listed.size := by omega
        simp [this]
      · rw [getD_set_ne false e]; exact hall j (by omega)
    · rw [getD_set_ne false (show i ≠ j by omega)]; exact hnot j (by omega)
theorem c_flow4 {P : Program} {Q : Exit → Act → World → Prop} {E w : World} {N : Nat} {r : Nat → Value} {id : Nat} {ops : List Oper} (F : List (List Hp)) (C : Nat → List Hp) (Tp : Nat → Value → List Hp → (Nat → Value) → Prop)
    (hm : P.follows .mixedOrders = true) (m : Nat) (hok : flowOk3 ops = true) (hml : m ≤ ops.length) (hsqb : seqB ops m = true) (H : Has E w (F ++ (List.range ops.length).map C))
    (step : ∀ i o, i < m → ops[i]? = some o → ∀ r' w' G hs, Turn3 E ops F C Tp N r i r' w' G hs → GOK P ops o N r' w' fun v w'' => ∃ h', Tp i (match o.dst with | some _ => v | none => undef) h' (msk ops i (vsOf ops r')) ∧ Has E w'' (h' :: G))
    (fin : ∀ (vs : Nat → Value) (hs : Nat → List Hp) w', (∀ i o, i < m → ops[i]? = some o → Tp i (vs i) (hs i) (msk ops i vs)) → (∀ i, m ≤ i → i < ops.length → hs i = C i) → Has E w' (F ++ (List.range ops.length).map hs) → wpList P ops.toArray Q (ops.drop m) (Go.Q.fr N (puts vs (ops.take m) 0 r)) w') :
    (Code.region id ops.toArray true).wp P Q (Go.Q.fr N r) w := by
  have hsq := seqB_spec hsqb
  refine wp_region_any hm ?_
  -- the state while some are done
  let Inv : Array Bool → Act → World → Prop := fun listed a w => listed.size = ops.length ∧ (∀ i, m ≤ i → listed.getD i false = false) ∧ (∀ i, listed.getD i false = true → ∀ d ∈ depsOf ops i, listed.getD d false = true) ∧
    ∃ r' hs, a = Go.Q.fr N r' ∧ Has E w (F ++ (List.range ops.length).map hs) ∧ (∀ i o, ops[i]? = some o → if listed.getD i false = true then o.dst.isSome = true ∧ Tp i (slot r' o) (hs i) (msk ops i (vsOf ops r')) ∨ o.dst = none ∧ Tp i undef (hs i) (msk ops i (vsOf ops r')) else hs i = C i) ∧
    (∀ t, (∀ i o, ops[i]? = some o → o.dst = some t → listed.getD i false = false) → r' t = r t)
  have key : ∀ fuel listed a w, Inv listed a w → (List.range ops.length).countP (fun i => !listed.getD i false) ≤ fuel → wpAny P .any ops.toArray Q fuel listed a w := by
    have ready0 : ∀ listed : Array Bool, listed.size = ops.length → Region.ready .any ops.toArray listed = [] → ∀ i, i < ops.length → listed.getD i false = true := by
      intro listed hsz hr i
      induction i using Nat.strongRecOn with
      | _ i ih =>
        intro hi
        cases hl : listed.getD i false with
        | true => rfl
        | false =>
          exfalso
          obtain ⟨o, ho⟩ : ∃ o, ops[i]? = some o := ⟨_, List.getElem?_eq_getElem hi⟩
          have : i ∈ Region.ready .any ops.toArray listed := by
            refine mem_ready.2 ⟨?_, o, by simpa using ho, fun e he hb => ?_⟩
            · have : i < listed.size := by omega
              simp [this] at hl ⊢; exact hl
            · have hd := mem_depsOf ho he hb
              have hlt := (flowOk3_spec hok ho).1 _ hd
              exact ih _ hlt (by omega)
          rw [hr] at this; cases this
    have fin' : ∀ fuel listed a w, Inv listed a w → (List.range ops.length).countP (fun i => !listed.getD i false) ≤ fuel → (∀ i, i < m → listed.getD i false = true) → wpAny P .any ops.toArray Q fuel listed a w := by
      rintro fuel listed a w ⟨hsz, hnot, _, r', hs, rfl, hH, hT, hold⟩ hc hall
      let vs : Nat → Value := vsOf ops r'
      have htk : ∀ j o', (ops.take m)[j]? = some o' → ops[j]? = some o' ∧ j < m := fun j o' hj => by
        rw [List.getElem?_take] at hj
        split at hj
        · exact ⟨hj, by assumption⟩
        · cases hj
      have e : Go.Q.fr N r' = Go.Q.fr N (puts vs (ops.take m) 0 r) := by
        refine fr_congr fun t _ => ?_
        by_cases hex : ∃ (i : Nat) (o : Oper), (ops.take m)[i]? = some o ∧ o.dst = some t
        · obtain ⟨i, o, ho, hd⟩ := hex
          rw [puts_new vs (ops.take m) 0 i r o t ho hd (fun j o' hj hne => (flowOk3_spec hok (htk i o ho).1).2 j o' t (htk j o' hj).1 hne hd)]
          simp [vs, vsOf, (htk i o ho).1, slot, hd]
        · rw [puts_old vs (ops.take m) 0 r t (fun o ho hd => by obtain ⟨j, hj⟩ := List.getElem?_of_mem ho; exact hex ⟨j, o, hj, hd⟩)]
          refine hold t (fun i o ho hd => ?_)
          rcases Nat.lt_or_ge i m with g | g
          · exact absurd ⟨i, o, by rw [List.getElem?_take, if_pos g]; exact ho, hd⟩ hex
          · exact hnot i g
      have hw := fin vs hs w (fun i o hi ho => by
        have := hT i o ho
        rw [if_pos (hall i hi)] at this
        have hvs : vs i = slot r' o := by simp only [vs, vsOf, ho]
        rw [hvs]
        rcases this with ⟨_, h⟩ | ⟨hn, h⟩
        · exact h
        · unfold slot; rw [hn]; exact h) (fun i hi hl => by
        have := hT i _ (List.getElem?_eq_getElem hl)
        rw [if_neg (by rw [hnot i hi]; simp)] at this; exact this) hH
      rw [← e] at hw
      have hcount : ops.length - m ≤ (List.range ops.length).countP (fun i => !listed.getD i false) := by
        have : List.range ops.length = List.range m ++ List.range' m (ops.length - m) := by
          have := List.range'_append_1 (s := 0) (m := m) (n := ops.length - m)
          rw [Nat.zero_add] at this
          rw [List.range_eq_range', List.range_eq_range', this]; congr 1; omega
        rw [this, List.countP_append]
        have h2 : (List.range' m (ops.length - m)).countP (fun i => !listed.getD i false) = (List.range' m (ops.length - m)).length := by
          rw [List.countP_eq_length]
          intro i hi
          rw [hnot i (by have := List.mem_range'_1.1 hi; omega)]; rfl
        rw [h2, List.length_range']; omega
      refine seq_any hok (ops.length - m) m listed _ w (by omega) hsz hall hnot hsq ?_ fuel (by omega)
      have := wpOps_eq_wpList (P := P) (Q := Q) (ops := ops.toArray) (ops.drop m) m (fun j => by simp)
      rw [List.length_drop] at this
      rw [this]; exact hw
    intro fuel
    induction fuel with
    | zero =>
      intro listed a w hI hc
      refine fin' 0 listed a w hI hc fun i hi => ?_
      cases hl : listed.getD i false with
      | true => rfl
      | false =>
        have hp : 0 < (List.range ops.length).countP (fun i => !listed.getD i false) := List.countP_pos_iff.2 ⟨i, List.mem_range.2 (by omega), by rw [hl]; rfl⟩
        omega
    | succ fuel ih =>
      intro listed a w hI hc
      by_cases hall : ∀ i, i < m → listed.getD i false = true
      · exact fin' _ listed a w hI hc hall
      refine ⟨fun hr => absurd (fun i hi => ready0 listed hI.1 hr i (by omega)) hall, fun i hi => ?_⟩
      obtain ⟨hsz, hnot, hcl, r', hs, rfl, hH, hT, hold⟩ := hI
      obtain ⟨h0, o, ho', hdone⟩ := mem_ready.1 hi
      have ho : ops[i]? = some o := by simpa using ho'
      have hlt : i < ops.length := (List.getElem?_eq_some_iff.1 ho).1
      have hli : listed.getD i false = false := by
        have hs : i < listed.size := by omega
        simp [hs] at h0 ⊢; exact h0
      obtain ⟨hdlt, hdist⟩ := flowOk3_spec hok ho
      have hdeps : ∀ d ∈ depsOf ops i, listed.getD d false = true := by
        intro d hd
        unfold depsOf at hd
        rw [ho] at hd
        obtain ⟨e, he, heq⟩ := List.mem_filterMap.1 hd
        split at heq
        · cases heq; exact hdone e (by simpa using he) (by assumption)
        · cases heq
      have him : i < m := by
        rcases Nat.lt_or_ge i m with g | g
        · exact g
        · exact absurd (fun j hj => anc_trans3 hok hcl _ i j (hsq i j g hlt (by omega)) hdeps) hall
      -- the heaplets: the one at i in front
      let G : List (List Hp) := F ++ ((List.range i).map hs ++ (List.range' (i + 1) (ops.length - (i + 1))).map hs)
      have hsplit : List.range ops.length = List.range i ++ i :: List.range' (i + 1) (ops.length - (i + 1)) := by
        rw [List.range_eq_range', List.range_eq_range', show i :: List.range' (i + 1) (ops.length - (i + 1)) = List.range' i (ops.length - i) from by
          rw [show ops.length - i = (ops.length - (i + 1)) + 1 by omega, List.range'_succ]]
        have := List.range'_append_1 (s := 0) (m := i) (n := ops.length - i)
        rw [Nat.zero_add] at this
        rw [this]; congr 1; omega
      have mapsplit : ∀ f : Nat → List Hp, (List.range ops.length).map f = (List.range i).map f ++ f i :: (List.range' (i + 1) (ops.length - (i + 1))).map f := by
        intro f; rw [hsplit]; simp
      have hperm : ∀ f : Nat → List Hp, (F ++ (List.range ops.length).map f).Perm (f i :: (F ++ ((List.range i).map f ++ (List.range' (i + 1) (ops.length - (i + 1))).map f))) := by
        intro f
        rw [mapsplit f, ← List.append_assoc, ← List.append_assoc]
        exact List.perm_middle
      have hhi : hs i = C i := by have := hT i o ho; rw [if_neg (by rw [hli]; simp)] at this; exact this
      have inG : ∀ j, j < ops.length → j ≠ i → hs j ∈ G := by
        intro j hj hne
        refine List.mem_append_right _ ?_
        rcases Nat.lt_or_gt_of_ne hne with h | h
        · exact List.mem_append_left _ (List.mem_map.2 ⟨j, List.mem_range.2 h, rfl⟩)
        · exact List.mem_append_right _ (List.mem_map.2 ⟨j, by rw [List.mem_range'_1]; omega, rfl⟩)
      have subG : ∀ s ∈ G, s ⊆ G.flatten := fun s hs' x hx => List.mem_flatten.2 ⟨s, hs', hx⟩
      have ancNe : ∀ j, listed.getD j false = true → j ≠ i := fun j hj e => by rw [e, hli] at hj; cases hj
      have turn : Turn3 E ops F C Tp N r i r' w G hs := by
        refine ⟨?_, fun s hs' => subG s (List.mem_append_left _ hs'), fun j oj hoj hanc => ?_, fun j hanc => ?_, fun t ht => ?_, fun j oj hoj hne => ?_⟩
        · rw [← hhi]; exact hH.perm (hperm hs).symm
        · have hl := anc_trans3 hok hcl _ i j hanc hdeps
          refine ⟨?_, subG _ (inG j (List.getElem?_eq_some_iff.1 hoj).1 (ancNe j hl))⟩
          have := hT j oj hoj
          rw [if_pos hl] at this
          rcases this with ⟨_, h⟩ | ⟨hn, h⟩
          · exact h
          · unfold slot; rw [hn]; exact h
        · cases hj : ops[j]? with
          | none =>
            exfalso
            unfold anc at hanc
            split at hanc
            · cases hanc
            · simp [depsOf, hj] at hanc
          | some oj =>
            have hnl : listed.getD j false = false := by
              cases hl : listed.getD j false with
              | false => rfl
              | true =>
                have := anc_trans3 hok hcl _ j i hanc (hcl j hl)
                rw [hli] at this; cases this
            have hjl := (List.getElem?_eq_some_iff.1 hj).1
            have hne : j ≠ i := by
              rintro rfl
              have := anc_trans3 hok hcl _ j j hanc hdeps
              rw [hli] at this; cases this
            have := hT j oj hj
            rw [if_neg (by rw [hnl]; simp)] at this
            rw [← this]; exact subG _ (inG j hjl hne)
        · refine hold t (fun j oj hoj hd => ?_)
          rcases ht j oj hoj hd with rfl | hanc
          · exact hli
          · cases hl : listed.getD j false with
            | false => rfl
            | true =>
              have := anc_trans3 hok hcl _ j i hanc (hcl j hl)
              rw [hli] at this; cases this
        · have hG := subG _ (inG j (List.getElem?_eq_some_iff.1 hoj).1 hne)
          have := hT j oj hoj
          cases hl : listed.getD j false with
          | true =>
            rw [if_pos hl] at this
            rcases this with ⟨_, h⟩ | ⟨_, h⟩
            · exact .inr ⟨⟨_, _, h⟩, hG⟩
            · exact .inr ⟨⟨_, _, h⟩, hG⟩
          | false =>
            rw [if_neg (by rw [hl]; simp)] at this
            rw [← this]; exact .inl hG
      have hstep := step i o him ho r' w G hs turn
      have hnext : ∀ (v : Value) (w'' : World), (∃ h', Tp i (match o.dst with | some _ => v | none => undef) h' (msk ops i (vsOf ops r')) ∧ Has E w'' (h' :: G)) →
          wpAny P .any ops.toArray Q fuel (listed.setIfInBounds i true) ((Go.Q.fr N r').put o.dst v) w'' := ?_
      · exact GOK.wp ho' hstep hnext
      rintro v w'' ⟨h', hTi, hH'⟩
      refine ih _ _ _ ⟨by simpa using hsz, fun j hj => by rw [getD_set_ne false (show i ≠ j by omega)]; exact hnot j hj, ?_, ?_⟩ ?_
      · intro j hj d hd
        by_cases hji : i = j
        · subst hji; exact getD_set_true (hdeps d hd)
        · rw [getD_set_ne false hji] at hj
          exact getD_set_true (hcl j hj d hd)
      · let hs' : Nat → List Hp := fun j => if j = i then h' else hs j
        have hsG : F ++ ((List.range i).map hs' ++ (List.range' (i + 1) (ops.length - (i + 1))).map hs') = G := by
          have e1 : (List.range i).map hs' = (List.range i).map hs := List.map_congr_left fun j hj => by
            have := List.mem_range.1 hj; simp only [hs']; rw [if_neg (by omega)]
          have e2 : (List.range' (i + 1) (ops.length - (i + 1))).map hs' = (List.range' (i + 1) (ops.length - (i + 1))).map hs := List.map_congr_left fun j hj => by
            have := List.mem_range'_1.1 hj; simp only [hs']; rw [if_neg (by omega)]
          rw [e1, e2]
        have hH2 : Has E w'' (F ++ (List.range ops.length).map hs') := by
          refine hH'.perm ((hperm hs').trans ?_)
          rw [hsG]
          simp [hs']
        have hset : ∀ j, j ≠ i → (listed.setIfInBounds i true).getD j false = listed.getD j false := fun j hj => getD_set_ne false (Ne.symm hj)
        have hseti : (listed.setIfInBounds i true).getD i false = true := by
          have : i < listed.size := by omega
          simp [this]
        cases hd : o.dst with
        | none =>
          refine ⟨r', hs', by rw [fr_put_none], hH2, fun j oj hoj => ?_, fun t ht => hold t fun j oj hoj hdj => ?_⟩
          · by_cases hji : j = i
            · subst hji
              rw [ho] at hoj; cases hoj
              rw [if_pos hseti]
              rw [hd] at hTi
              exact .inr ⟨hd, by simpa [hs'] using hTi⟩
            · rw [hset j hji]
              have := hT j oj hoj
              simpa [hs', hji] using this
          · by_cases hji : j = i
            · subst hji; exact hli
            · have := ht j oj hoj hdj; rwa [hset j hji] at this
        | some d =>
          refine ⟨upd r' d v, hs', by rw [fr_put], hH2, fun j oj hoj => ?_, fun t ht => ?_⟩
          · by_cases hji : j = i
            · subst hji
              rw [ho] at hoj; cases hoj
              rw [if_pos hseti]
              refine .inl ⟨by rw [hd]; rfl, ?_⟩
              rw [hd] at hTi
              rw [msk_upd3 hok ho hd (fun k hk => ancNe k (anc_trans3 hok hcl _ j k hk hdeps))]
              simp only [slot, hd, upd_same, hs', if_true]; exact hTi
            · rw [hset j hji]
              have := hT j oj hoj
              have hne : oj.dst ≠ some d := hdist j oj d hoj hji hd
              have hsl : slot (upd r' d v) oj = slot r' oj := by
                unfold slot
                cases hdj : oj.dst with
                | none => rfl
                | some t => exact upd_ne _ _ (fun e => hne (by rw [hdj, e]))
              cases hlj : listed.getD j false with
              | true =>
                rw [msk_upd3 hok ho hd (fun k hk => ancNe k (anc_trans3 hok hcl _ j k hk (hcl j hlj)))]
                simpa [hs', hji, hsl, hlj] using this
              | false => simpa [hs', hji, hlj] using this
          · have hne : t ≠ d := by
              rintro rfl
              have := ht i o ho hd
              rw [hseti] at this; cases this
            rw [upd_ne _ _ hne]
            refine hold t fun j oj hoj hdj => ?_
            by_cases hji : j = i
            · subst hji; exact hli
            · have := ht j oj hoj hdj; rwa [hset j hji] at this
      · have : (List.range ops.length).countP (fun j => !(listed.setIfInBounds i true).getD j false) < (List.range ops.length).countP (fun j => !listed.getD j false) := by
          have hset : ∀ j, j ≠ i → (listed.setIfInBounds i true).getD j false = listed.getD j false := fun j hj => getD_set_ne false (Ne.symm hj)
          have hseti : (listed.setIfInBounds i true).getD i false = true := by
            have : i < listed.size := by omega
            simp [this]
          rw [hsplit, List.countP_append, List.countP_cons, List.countP_append, List.countP_cons, hseti, hli]
          have e1 : (List.range i).countP (fun j => !(listed.setIfInBounds i true).getD j false) = (List.range i).countP (fun j => !listed.getD j false) :=
            List.countP_congr fun j hj => by have := List.mem_range.1 hj; rw [hset j (by omega)]
          have e2 : (List.range' (i + 1) (ops.length - (i + 1))).countP (fun j => !(listed.setIfInBounds i true).getD j false) = (List.range' (i + 1) (ops.length - (i + 1))).countP (fun j => !listed.getD j false) :=
            List.countP_congr fun j hj => by have := List.mem_range'_1.1 hj; rw [hset j (by omega)]
          rw [e1, e2]; simp
        omega
  have h0 : Inv (Array.replicate ops.toArray.size false) (Go.Q.fr N r) { w with drawn := w.drawn + 1 } := by
    have hf : ∀ i, (Array.replicate ops.toArray.size false).getD i false = false := by
      intro i; by_cases h : i < ops.length <;> simp [h]
    refine ⟨by simp, fun i _ => hf i, fun i hi => ?_, r, C, rfl, H.drew _, fun i o _ => ?_, fun _ _ => rfl⟩
    · rw [hf] at hi; cases hi
    · rw [if_neg (by rw [hf]; simp)]
  refine key _ _ _ _ h0 ?_
  refine Nat.le_trans List.countP_le_length (by simp)

end Go.Q
namespace Go.Q
/-- All that is behind m waits for all that is ahead. -/
def barB (ops : List Oper) (m : Nat) : Bool := (List.range' m (ops.length - m)).all fun i => (List.range m).all fun j => anc ops ops.length i j
theorem barB_spec {ops : List Oper} {m : Nat} (h : barB ops m = true) : ∀ i j, m ≤ i → i < ops.length → j < m → anc ops ops.length i j = true := fun i j h1 h2 h3 => by
  unfold barB at h
  rw [List.all_eq_true] at h
  have := h i (List.mem_range'_1.2 (by omega))
  rw [List.all_eq_true] at this
  exact this j (List.mem_range.2 h3)
/-- What is to be shown where the first m operations are done. -/
def Rest (P : Program) (Q : Exit → Act → World → Prop) (ops : List Oper) (m : Nat) (a : Act) (w : World) : Prop :=
  flowOk3 ops = true → ∀ (fuel : Nat) (listed : Array Bool), listed.size = ops.length → (∀ i, i < m → listed.getD i false = true) → (∀ i, m ≤ i → listed.getD i false = false) → ops.length - m ≤ fuel → wpAny P .any ops.toArray Q fuel listed a w
theorem Rest.region {P : Program} {Q : Exit → Act → World → Prop} {w : World} {N : Nat} {r : Nat → Value} {id : Nat} {ops : List Oper} (hm : P.follows .mixedOrders = true) (hok : flowOk3 ops = true) (h : Rest P Q ops 0 (Go.Q.fr N r) { w with drawn := w.drawn + 1 }) : (Code.region id ops.toArray true).wp P Q (Go.Q.fr N r) w := by
  refine wp_region_any hm (h hok _ _ (by simp) (fun i hi => absurd hi (Nat.not_lt_zero _)) (fun i _ => ?_) (by simp))
  by_cases h : i < ops.length <;> simp [h]
theorem Rest.end {P : Program} {Q : Exit → Act → World → Prop} {ops : List Oper} {a : Act} {w : World} (h : Q .normal a w) : Rest P Q ops ops.length a w := fun _ fuel listed hsz hall _ _ => by
  refine wpAny_done ?_ h fuel
  rw [List.eq_nil_iff_forall_not_mem]
  intro i hi
  obtain ⟨h0, o, ho, _⟩ := mem_ready.1 hi
  have hlt : i < ops.length := by simpa using (Array.getElem?_eq_some_iff.1 ho).1
  have h1 := hall i hlt
  have hs : i < listed.size := by omega
  simp [hs] at h0 h1; rw [h0] at h1; cases h1
theorem Rest.done {P : Program} {Q : Exit → Act → World → Prop} {ops : List Oper} {a : Act} {w : World} {m : Nat} (hm : m = ops.length) (h : Q .normal a w) : Rest P Q ops m a w := hm ▸ Rest.end h
theorem Rest.one {P : Program} {Q : Exit → Act → World → Prop} {ops : List Oper} {N : Nat} {r : Nat → Value} {w : World} {k : Nat} {o : Oper} (ho : ops[k]? = some o) (hb : barB ops (k + 1) = true)
    (h : GOK P ops o N r w fun v w'' => Rest P Q ops (k + 1) ((Go.Q.fr N r).put o.dst v) w'') : Rest P Q ops k (Go.Q.fr N r) w := by
  intro hok fuel listed hsz hall hnot hf
  have hlk : k < ops.length := (List.getElem?_eq_some_iff.1 ho).1
  obtain ⟨f, rfl⟩ : ∃ f, fuel = f + 1 := ⟨fuel - 1, by omega⟩
  have hcl : ∀ i, listed.getD i false = true → ∀ d ∈ depsOf ops i, listed.getD d false = true := fun i hi d hd => by
    have hik : i < k := by
      rcases Nat.lt_or_ge i k with g | g
      · exact g
      · rw [hnot i g] at hi; cases hi
    have := (flowOk3_spec hok (List.getElem?_eq_getElem (show i < ops.length by omega))).1 d hd
    exact hall d (by omega)
  have hkr : k ∈ Region.ready .any ops.toArray listed := by
    refine mem_ready.2 ⟨?_, ops[k], by simp [hlk], fun e he hb => ?_⟩
    · have h1 := hnot k (Nat.le_refl _)
      have hs : k < listed.size := by omega
      simp [hs] at h1 ⊢; exact h1
    · have hd := mem_depsOf (List.getElem?_eq_getElem hlk) he hb
      exact hall _ ((flowOk3_spec hok (List.getElem?_eq_getElem hlk)).1 _ hd)
  refine ⟨fun hr => (by rw [hr] at hkr; cases hkr), fun i hi => ?_⟩
  obtain ⟨h0, o', ho', hdone⟩ := mem_ready.1 hi
  have hlt : i < ops.length := by simpa using (Array.getElem?_eq_some_iff.1 ho').1
  have hli : listed.getD i false = false := by
    have hs : i < listed.size := by omega
    simp [hs] at h0 ⊢; exact h0
  have hdeps : ∀ d ∈ depsOf ops i, listed.getD d false = true := by
    intro d hd
    unfold depsOf at hd
    rw [show ops[i]? = some o' by simpa using ho'] at hd
    obtain ⟨e, he, heq⟩ := List.mem_filterMap.1 hd
    split at heq
    · cases heq; exact hdone e (by simpa using he) (by assumption)
    · cases heq
  have hik : i = k := by
    rcases Nat.lt_trichotomy i k with g | g | g
    · rw [hall i g] at hli; cases hli
    · exact g
    · have := anc_trans3 hok hcl _ i k (barB_spec hb i k (by omega) hlt (by omega)) hdeps
      rw [hnot k (Nat.le_refl _)] at this; cases this
  subst hik
  refine GOK.wp (by simpa using ho) h fun v w'' hk => hk hok f _ (by simpa using hsz) (fun j hj => ?_) (fun j hj => ?_) (by omega)
  · by_cases e : i = j
    · subst e
      have : i < listed.size := by omega
      simp [this]
    · rw [getD_set_ne false e]; exact hall j (by omega)
  · rw [getD_set_ne false (show i ≠ j by omega)]; exact hnot j (by omega)
section
variable {P : Program} {Q : Exit → Act → World → Prop} {ops : List Oper} {N : Nat} {r : Nat → Value} {w : World}
theorem r_op {d : Nat} {op : Op} {T : TypeId} {pos : String} {after : Array Edge} (k : Nat) (ho : ops[k]? = some ⟨some d, op, T, pos, after, none⟩) (hb : barB ops (k + 1) = true)
    (h : OK P ⟨some d, op, T, pos, after, none⟩ (ev N r) w fun v w' => Rest P Q ops (k + 1) (Go.Q.fr N (upd r d v)) w') : Rest P Q ops k (Go.Q.fr N r) w :=
  Rest.one ho hb (GOK.free rfl (h.mono fun v w' hk => by rw [fr_put]; exact hk))
theorem r_eff {op : Op} {T : TypeId} {pos : String} {after : Array Edge} (k : Nat) (ho : ops[k]? = some ⟨none, op, T, pos, after, none⟩) (hb : barB ops (k + 1) = true)
    (h : OK P ⟨none, op, T, pos, after, none⟩ (ev N r) w fun _ w' => Rest P Q ops (k + 1) (Go.Q.fr N r) w') : Rest P Q ops k (Go.Q.fr N r) w :=
  Rest.one ho hb (GOK.free rfl (h.mono fun v w' hk => by rw [fr_put_none]; exact hk))
theorem r_on {d : Nat} {op : Op} {T : TypeId} {pos : String} {after : Array Edge} {g : Nat} {b : Bool} (k : Nat) (ho : ops[k]? = some ⟨some d, op, T, pos, after, some (g, b)⟩) (hb : barB ops (k + 1) = true) (t : Nat) (hgt : dstOf ops g = some t) (hv : ev N r (.tmp t) = .bool b)
    (h : OK P ⟨some d, op, T, pos, after, some (g, b)⟩ (ev N r) w fun v w' => Rest P Q ops (k + 1) (Go.Q.fr N (upd r d v)) w') : Rest P Q ops k (Go.Q.fr N r) w :=
  Rest.one ho hb (GOK.on rfl hgt hv (h.mono fun v w' hk => by rw [fr_put]; exact hk))
theorem r_off {d : Nat} {op : Op} {T : TypeId} {pos : String} {after : Array Edge} {g : Nat} {b b' : Bool} (k : Nat) (ho : ops[k]? = some ⟨some d, op, T, pos, after, some (g, b)⟩) (hb : barB ops (k + 1) = true) (t : Nat) (hgt : dstOf ops g = some t) (hv : ev N r (.tmp t) = .bool b') (hne : (b' == b) = false)
    (h : Rest P Q ops (k + 1) (Go.Q.fr N (upd r d undef)) w) : Rest P Q ops k (Go.Q.fr N r) w :=
  Rest.one ho hb (GOK.off rfl hgt hv hne (by rw [fr_put]; exact h))
theorem r_offu {d : Nat} {op : Op} {T : TypeId} {pos : String} {after : Array Edge} {g : Nat} {b : Bool} (k : Nat) (ho : ops[k]? = some ⟨some d, op, T, pos, after, some (g, b)⟩) (hb : barB ops (k + 1) = true) (t : Nat) (hgt : dstOf ops g = some t) (hv : ev N r (.tmp t) = undef)
    (h : Rest P Q ops (k + 1) (Go.Q.fr N (upd r d undef)) w) : Rest P Q ops k (Go.Q.fr N r) w :=
  Rest.one ho hb (GOK.offu rfl hgt hv (by rw [fr_put]; exact h))
end
theorem Rest.phase {P : Program} {Q : Exit → Act → World → Prop} {E w : World} {N : Nat} {r : Nat → Value} {ops : List Oper} (F : List (List Hp)) (C : Nat → List Hp) (Tp : Nat → Value → List Hp → (Nat → Value) → Prop)
    (m0 m : Nat) (hml : m ≤ ops.length) (hm0 : m0 ≤ m) (hbar : barB ops m = true) (H : Has E w (F ++ (List.range ops.length).map C))
    (done0 : ∀ i o, i < m0 → ops[i]? = some o → Tp i (slot r o) (C i) (msk ops i (vsOf ops r)))
    (step : ∀ i o, m0 ≤ i → i < m → ops[i]? = some o → ∀ r' w' G hs, Turn3 E ops F C Tp N r i r' w' G hs → GOK P ops o N r' w' fun v w'' => ∃ h', Tp i (match o.dst with | some _ => v | none => undef) h' (msk ops i (vsOf ops r')) ∧ Has E w'' (h' :: G))
    (fin : ∀ (vs : Nat → Value) (hs : Nat → List Hp) w', (∀ i o, i < m → ops[i]? = some o → Tp i (vs i) (hs i) (msk ops i vs)) → (∀ i, m ≤ i → i < ops.length → hs i = C i) → Has E w' (F ++ (List.range ops.length).map hs) → Rest P Q ops m (Go.Q.fr N (puts vs (ops.take m) 0 r)) w') :
    Rest P Q ops m0 (Go.Q.fr N r) w := by
  intro hok fuel0 listed0 hsz0 hall0 hnot0 hf0
  have hsq := barB_spec hbar
  -- the state while some are done
  let Inv : Array Bool → Act → World → Prop := fun listed a w => listed.size = ops.length ∧ (∀ i, i < m0 → listed.getD i false = true) ∧ (∀ i, m ≤ i → listed.getD i false = false) ∧ (∀ i, listed.getD i false = true → ∀ d ∈ depsOf ops i, listed.getD d false = true) ∧
    ∃ r' hs, a = Go.Q.fr N r' ∧ Has E w (F ++ (List.range ops.length).map hs) ∧ (∀ i o, ops[i]? = some o → if listed.getD i false = true then o.dst.isSome = true ∧ Tp i (slot r' o) (hs i) (msk ops i (vsOf ops r')) ∨ o.dst = none ∧ Tp i undef (hs i) (msk ops i (vsOf ops r')) else hs i = C i) ∧
    (∀ t, (∀ i o, ops[i]? = some o → o.dst = some t → listed.getD i false = false) → r' t = r t)
  have key : ∀ fuel listed a w, Inv listed a w → (List.range ops.length).countP (fun i => !listed.getD i false) ≤ fuel → wpAny P .any ops.toArray Q fuel listed a w := by
    have ready0 : ∀ listed : Array Bool, listed.size = ops.length → Region.ready .any ops.toArray listed = [] → ∀ i, i < ops.length → listed.getD i false = true := by
      intro listed hsz hr i
      induction i using Nat.strongRecOn with
      | _ i ih =>
        intro hi
        cases hl : listed.getD i false with
        | true => rfl
        | false =>
          exfalso
          obtain ⟨o, ho⟩ : ∃ o, ops[i]? = some o := ⟨_, List.getElem?_eq_getElem hi⟩
          have : i ∈ Region.ready .any ops.toArray listed := by
            refine mem_ready.2 ⟨?_, o, by simpa using ho, fun e he hb => ?_⟩
            · have : i < listed.size := by omega
              simp [this] at hl ⊢; exact hl
            · have hd := mem_depsOf ho he hb
              have hlt := (flowOk3_spec hok ho).1 _ hd
              exact ih _ hlt (by omega)
          rw [hr] at this; cases this
    have fin' : ∀ fuel listed a w, Inv listed a w → (List.range ops.length).countP (fun i => !listed.getD i false) ≤ fuel → (∀ i, i < m → listed.getD i false = true) → wpAny P .any ops.toArray Q fuel listed a w := by
      rintro fuel listed a w ⟨hsz, hpre, hnot, _, r', hs, rfl, hH, hT, hold⟩ hc hall
      let vs : Nat → Value := vsOf ops r'
      have htk : ∀ j o', (ops.take m)[j]? = some o' → ops[j]? = some o' ∧ j < m := fun j o' hj => by
        rw [List.getElem?_take] at hj
        split at hj
        · exact ⟨hj, by assumption⟩
        · cases hj
      have e : Go.Q.fr N r' = Go.Q.fr N (puts vs (ops.take m) 0 r) := by
        refine fr_congr fun t _ => ?_
        by_cases hex : ∃ (i : Nat) (o : Oper), (ops.take m)[i]? = some o ∧ o.dst = some t
        · obtain ⟨i, o, ho, hd⟩ := hex
          rw [puts_new vs (ops.take m) 0 i r o t ho hd (fun j o' hj hne => (flowOk3_spec hok (htk i o ho).1).2 j o' t (htk j o' hj).1 hne hd)]
          simp [vs, vsOf, (htk i o ho).1, slot, hd]
        · rw [puts_old vs (ops.take m) 0 r t (fun o ho hd => by obtain ⟨j, hj⟩ := List.getElem?_of_mem ho; exact hex ⟨j, o, hj, hd⟩)]
          refine hold t (fun i o ho hd => ?_)
          rcases Nat.lt_or_ge i m with g | g
          · exact absurd ⟨i, o, by rw [List.getElem?_take, if_pos g]; exact ho, hd⟩ hex
          · exact hnot i g
      have hw := fin vs hs w (fun i o hi ho => by
        have := hT i o ho
        rw [if_pos (hall i hi)] at this
        have hvs : vs i = slot r' o := by simp only [vs, vsOf, ho]
        rw [hvs]
        rcases this with ⟨_, h⟩ | ⟨hn, h⟩
        · exact h
        · unfold slot; rw [hn]; exact h) (fun i hi hl => by
        have := hT i _ (List.getElem?_eq_getElem hl)
        rw [if_neg (by rw [hnot i hi]; simp)] at this; exact this) hH
      rw [← e] at hw
      have hcount : ops.length - m ≤ (List.range ops.length).countP (fun i => !listed.getD i false) := by
        have : List.range ops.length = List.range m ++ List.range' m (ops.length - m) := by
          have := List.range'_append_1 (s := 0) (m := m) (n := ops.length - m)
          rw [Nat.zero_add] at this
          rw [List.range_eq_range', List.range_eq_range', this]; congr 1; omega
        rw [this, List.countP_append]
        have h2 : (List.range' m (ops.length - m)).countP (fun i => !listed.getD i false) = (List.range' m (ops.length - m)).length := by
          rw [List.countP_eq_length]
          intro i hi
          rw [hnot i (by have := List.mem_range'_1.1 hi; omega)]; rfl
        rw [h2, List.length_range']; omega
      exact hw hok fuel listed hsz hall hnot (by omega)
    intro fuel
    induction fuel with
    | zero =>
      intro listed a w hI hc
      refine fin' 0 listed a w hI hc fun i hi => ?_
      cases hl : listed.getD i false with
      | true => rfl
      | false =>
        have hp : 0 < (List.range ops.length).countP (fun i => !listed.getD i false) := List.countP_pos_iff.2 ⟨i, List.mem_range.2 (by omega), by rw [hl]; rfl⟩
        omega
    | succ fuel ih =>
      intro listed a w hI hc
      by_cases hall : ∀ i, i < m → listed.getD i false = true
      · exact fin' _ listed a w hI hc hall
      refine ⟨fun hr => absurd (fun i hi => ready0 listed hI.1 hr i (by omega)) hall, fun i hi => ?_⟩
      obtain ⟨hsz, hpre, hnot, hcl, r', hs, rfl, hH, hT, hold⟩ := hI
      obtain ⟨h0, o, ho', hdone⟩ := mem_ready.1 hi
      have ho : ops[i]? = some o := by simpa using ho'
      have hlt : i < ops.length := (List.getElem?_eq_some_iff.1 ho).1
      have hli : listed.getD i false = false := by
        have hs : i < listed.size := by omega
        simp [hs] at h0 ⊢; exact h0
      obtain ⟨hdlt, hdist⟩ := flowOk3_spec hok ho
      have hdeps : ∀ d ∈ depsOf ops i, listed.getD d false = true := by
        intro d hd
        unfold depsOf at hd
        rw [ho] at hd
        obtain ⟨e, he, heq⟩ := List.mem_filterMap.1 hd
        split at heq
        · cases heq; exact hdone e (by simpa using he) (by assumption)
        · cases heq
      have him : i < m := by
        rcases Nat.lt_or_ge i m with g | g
        · exact g
        · exact absurd (fun j hj => anc_trans3 hok hcl _ i j (hsq i j g hlt hj) hdeps) hall
      -- the heaplets: the one at i in front
      let G : List (List Hp) := F ++ ((List.range i).map hs ++ (List.range' (i + 1) (ops.length - (i + 1))).map hs)
      have hsplit : List.range ops.length = List.range i ++ i :: List.range' (i + 1) (ops.length - (i + 1)) := by
        rw [List.range_eq_range', List.range_eq_range', show i :: List.range' (i + 1) (ops.length - (i + 1)) = List.range' i (ops.length - i) from by
          rw [show ops.length - i = (ops.length - (i + 1)) + 1 by omega, List.range'_succ]]
        have := List.range'_append_1 (s := 0) (m := i) (n := ops.length - i)
        rw [Nat.zero_add] at this
        rw [this]; congr 1; omega
      have mapsplit : ∀ f : Nat → List Hp, (List.range ops.length).map f = (List.range i).map f ++ f i :: (List.range' (i + 1) (ops.length - (i + 1))).map f := by
        intro f; rw [hsplit]; simp
      have hperm : ∀ f : Nat → List Hp, (F ++ (List.range ops.length).map f).Perm (f i :: (F ++ ((List.range i).map f ++ (List.range' (i + 1) (ops.length - (i + 1))).map f))) := by
        intro f
        rw [mapsplit f, ← List.append_assoc, ← List.append_assoc]
        exact List.perm_middle
      have hhi : hs i = C i := by have := hT i o ho; rw [if_neg (by rw [hli]; simp)] at this; exact this
      have inG : ∀ j, j < ops.length → j ≠ i → hs j ∈ G := by
        intro j hj hne
        refine List.mem_append_right _ ?_
        rcases Nat.lt_or_gt_of_ne hne with h | h
        · exact List.mem_append_left _ (List.mem_map.2 ⟨j, List.mem_range.2 h, rfl⟩)
        · exact List.mem_append_right _ (List.mem_map.2 ⟨j, by rw [List.mem_range'_1]; omega, rfl⟩)
      have subG : ∀ s ∈ G, s ⊆ G.flatten := fun s hs' x hx => List.mem_flatten.2 ⟨s, hs', hx⟩
      have ancNe : ∀ j, listed.getD j false = true → j ≠ i := fun j hj e => by rw [e, hli] at hj; cases hj
      have turn : Turn3 E ops F C Tp N r i r' w G hs := by
        refine ⟨?_, fun s hs' => subG s (List.mem_append_left _ hs'), fun j oj hoj hanc => ?_, fun j hanc => ?_, fun t ht => ?_, fun j oj hoj hne => ?_⟩
        · rw [← hhi]; exact hH.perm (hperm hs).symm
        · have hl := anc_trans3 hok hcl _ i j hanc hdeps
          refine ⟨?_, subG _ (inG j (List.getElem?_eq_some_iff.1 hoj).1 (ancNe j hl))⟩
          have := hT j oj hoj
          rw [if_pos hl] at this
          rcases this with ⟨_, h⟩ | ⟨hn, h⟩
          · exact h
          · unfold slot; rw [hn]; exact h
        · cases hj : ops[j]? with
          | none =>
            exfalso
            unfold anc at hanc
            split at hanc
            · cases hanc
            · simp [depsOf, hj] at hanc
          | some oj =>
            have hnl : listed.getD j false = false := by
              cases hl : listed.getD j false with
              | false => rfl
              | true =>
                have := anc_trans3 hok hcl _ j i hanc (hcl j hl)
                rw [hli] at this; cases this
            have hjl := (List.getElem?_eq_some_iff.1 hj).1
            have hne : j ≠ i := by
              rintro rfl
              have := anc_trans3 hok hcl _ j j hanc hdeps
              rw [hli] at this; cases this
            have := hT j oj hj
            rw [if_neg (by rw [hnl]; simp)] at this
            rw [← this]; exact subG _ (inG j hjl hne)
        · refine hold t (fun j oj hoj hd => ?_)
          rcases ht j oj hoj hd with rfl | hanc
          · exact hli
          · cases hl : listed.getD j false with
            | false => rfl
            | true =>
              have := anc_trans3 hok hcl _ j i hanc (hcl j hl)
              rw [hli] at this; cases this
        · have hG := subG _ (inG j (List.getElem?_eq_some_iff.1 hoj).1 hne)
          have := hT j oj hoj
          cases hl : listed.getD j false with
          | true =>
            rw [if_pos hl] at this
            rcases this with ⟨_, h⟩ | ⟨_, h⟩
            · exact .inr ⟨⟨_, _, h⟩, hG⟩
            · exact .inr ⟨⟨_, _, h⟩, hG⟩
          | false =>
            rw [if_neg (by rw [hl]; simp)] at this
            rw [← this]; exact .inl hG
      have hi0 : m0 ≤ i := by
        rcases Nat.lt_or_ge i m0 with g | g
        · rw [hpre i g] at hli; cases hli
        · exact g
      have hstep := step i o hi0 him ho r' w G hs turn
      have hnext : ∀ (v : Value) (w'' : World), (∃ h', Tp i (match o.dst with | some _ => v | none => undef) h' (msk ops i (vsOf ops r')) ∧ Has E w'' (h' :: G)) →
          wpAny P .any ops.toArray Q fuel (listed.setIfInBounds i true) ((Go.Q.fr N r').put o.dst v) w'' := ?_
      · exact GOK.wp ho' hstep hnext
      rintro v w'' ⟨h', hTi, hH'⟩
      refine ih _ _ _ ⟨by simpa using hsz, fun j hj => by rw [getD_set_ne false (show i ≠ j by omega)]; exact hpre j hj, fun j hj => by rw [getD_set_ne false (show i ≠ j by omega)]; exact hnot j hj, ?_, ?_⟩ ?_
      · intro j hj d hd
        by_cases hji : i = j
        · subst hji; exact getD_set_true (hdeps d hd)
        · rw [getD_set_ne false hji] at hj
          exact getD_set_true (hcl j hj d hd)
      · let hs' : Nat → List Hp := fun j => if j = i then h' else hs j
        have hsG : F ++ ((List.range i).map hs' ++ (List.range' (i + 1) (ops.length - (i + 1))).map hs') = G := by
          have e1 : (List.range i).map hs' = (List.range i).map hs := List.map_congr_left fun j hj => by
            have := List.mem_range.1 hj; simp only [hs']; rw [if_neg (by omega)]
          have e2 : (List.range' (i + 1) (ops.length - (i + 1))).map hs' = (List.range' (i + 1) (ops.length - (i + 1))).map hs := List.map_congr_left fun j hj => by
            have := List.mem_range'_1.1 hj; simp only [hs']; rw [if_neg (by omega)]
          rw [e1, e2]
        have hH2 : Has E w'' (F ++ (List.range ops.length).map hs') := by
          refine hH'.perm ((hperm hs').trans ?_)
          rw [hsG]
          simp [hs']
        have hset : ∀ j, j ≠ i → (listed.setIfInBounds i true).getD j false = listed.getD j false := fun j hj => getD_set_ne false (Ne.symm hj)
        have hseti : (listed.setIfInBounds i true).getD i false = true := by
          have : i < listed.size := by omega
          simp [this]
        cases hd : o.dst with
        | none =>
          refine ⟨r', hs', by rw [fr_put_none], hH2, fun j oj hoj => ?_, fun t ht => hold t fun j oj hoj hdj => ?_⟩
          · by_cases hji : j = i
            · subst hji
              rw [ho] at hoj; cases hoj
              rw [if_pos hseti]
              rw [hd] at hTi
              exact .inr ⟨hd, by simpa [hs'] using hTi⟩
            · rw [hset j hji]
              have := hT j oj hoj
              simpa [hs', hji] using this
          · by_cases hji : j = i
            · subst hji; exact hli
            · have := ht j oj hoj hdj; rwa [hset j hji] at this
        | some d =>
          refine ⟨upd r' d v, hs', by rw [fr_put], hH2, fun j oj hoj => ?_, fun t ht => ?_⟩
          · by_cases hji : j = i
            · subst hji
              rw [ho] at hoj; cases hoj
              rw [if_pos hseti]
              refine .inl ⟨by rw [hd]; rfl, ?_⟩
              rw [hd] at hTi
              rw [msk_upd3 hok ho hd (fun k hk => ancNe k (anc_trans3 hok hcl _ j k hk hdeps))]
              simp only [slot, hd, upd_same, hs', if_true]; exact hTi
            · rw [hset j hji]
              have := hT j oj hoj
              have hne : oj.dst ≠ some d := hdist j oj d hoj hji hd
              have hsl : slot (upd r' d v) oj = slot r' oj := by
                unfold slot
                cases hdj : oj.dst with
                | none => rfl
                | some t => exact upd_ne _ _ (fun e => hne (by rw [hdj, e]))
              cases hlj : listed.getD j false with
              | true =>
                rw [msk_upd3 hok ho hd (fun k hk => ancNe k (anc_trans3 hok hcl _ j k hk (hcl j hlj)))]
                simpa [hs', hji, hsl, hlj] using this
              | false => simpa [hs', hji, hlj] using this
          · have hne : t ≠ d := by
              rintro rfl
              have := ht i o ho hd
              rw [hseti] at this; cases this
            rw [upd_ne _ _ hne]
            refine hold t fun j oj hoj hdj => ?_
            by_cases hji : j = i
            · subst hji; exact hli
            · have := ht j oj hoj hdj; rwa [hset j hji] at this
      · have : (List.range ops.length).countP (fun j => !(listed.setIfInBounds i true).getD j false) < (List.range ops.length).countP (fun j => !listed.getD j false) := by
          have hset : ∀ j, j ≠ i → (listed.setIfInBounds i true).getD j false = listed.getD j false := fun j hj => getD_set_ne false (Ne.symm hj)
          have hseti : (listed.setIfInBounds i true).getD i false = true := by
            have : i < listed.size := by omega
            simp [this]
          rw [hsplit, List.countP_append, List.countP_cons, List.countP_append, List.countP_cons, hseti, hli]
          have e1 : (List.range i).countP (fun j => !(listed.setIfInBounds i true).getD j false) = (List.range i).countP (fun j => !listed.getD j false) :=
            List.countP_congr fun j hj => by have := List.mem_range.1 hj; rw [hset j (by omega)]
          have e2 : (List.range' (i + 1) (ops.length - (i + 1))).countP (fun j => !(listed.setIfInBounds i true).getD j false) = (List.range' (i + 1) (ops.length - (i + 1))).countP (fun j => !listed.getD j false) :=
            List.countP_congr fun j hj => by have := List.mem_range'_1.1 hj; rw [hset j (by omega)]
          rw [e1, e2]; simp
        omega
  have h0 : Inv listed0 (Go.Q.fr N r) w := by
    refine ⟨hsz0, hall0, fun i hi => hnot0 i (by omega), fun i hi d hd => ?_, r, C, rfl, H, fun i o ho => ?_, fun _ _ => rfl⟩
    · have hi0 : i < m0 := by
        rcases Nat.lt_or_ge i m0 with g | g
        · exact g
        · rw [hnot0 i g] at hi; cases hi
      have := (flowOk3_spec hok (List.getElem?_eq_getElem (show i < ops.length by omega))).1 d hd
      exact hall0 d (by omega)
    · rcases Nat.lt_or_ge i m0 with g | g
      · rw [if_pos (hall0 i g)]
        have hd := done0 i o g ho
        cases hdd : o.dst with
        | none => exact .inr ⟨rfl, by unfold slot at hd; rw [hdd] at hd; exact hd⟩
        | some t => exact .inl ⟨rfl, hd⟩
      · rw [if_neg (by rw [hnot0 i g]; simp)]
  refine key _ _ _ _ h0 ?_
  have e0 : List.range ops.length = List.range m0 ++ List.range' m0 (ops.length - m0) := by
    have := List.range'_append_1 (s := 0) (m := m0) (n := ops.length - m0)
    rw [Nat.zero_add] at this
    rw [List.range_eq_range', List.range_eq_range', this]; congr 1; omega
  rw [e0, List.countP_append]
  have e1 : (List.range m0).countP (fun i => !listed0.getD i false) = 0 := by
    rw [List.countP_eq_zero]
    intro i hi
    rw [hall0 i (List.mem_range.1 hi)]; simp
  have e2 : (List.range' m0 (ops.length - m0)).countP (fun i => !listed0.getD i false) ≤ ops.length - m0 := Nat.le_trans List.countP_le_length (by rw [List.length_range']; exact Nat.le_refl _)
  omega
end Go.Q
namespace Go.Q

theorem sl_raw {b o sz n cap : Nat} {c : Array Value} {e : TypeId} {g : Nat × Nat} (hfit : o + n * sz ≤ c.size) (hn : n ≤ cap) (hm : cap ≤ 9223372036854775807) :
    Sl [Hp.one b (.cells c e g)] sz (.slice (some ⟨b, o, none⟩) n cap) n ((c.toList.drop o).take (n * sz)) := by
  refine ⟨_, _, rfl, hn, hm, ?_, fun _ => ⟨b, o, rfl, CellsAt.one ?_⟩⟩
  · rw [List.length_take, List.length_drop, Array.length_toList, Nat.min_eq_left (by omega)]
  · rw [List.length_take, List.length_drop, Array.length_toList, Nat.min_eq_left (by omega)]

/-- cells of the front block, written from a place on -/
theorem Has.setRow {E w : World} {ss : List (List Hp)} {b : Nat} {c c' : Array Value} {e : TypeId} (H : Has E w ([Hp.one b (.cells c e (0, 0))] :: ss)) : Has E (w.setRow b c') ([Hp.one b (.cells c' e (0, 0))] :: ss) := by
  have hwb : w.heap[b]? = some (.cells c e (0, 0)) := H.at (h := Hp.one b (.cells c e (0, 0))) (by simp) (Hp.one_at _ _)
  refine Has0.write (an := [Hp.one b (.cells c e (0, 0))]) (an' := [Hp.one b (.cells c' e (0, 0))]) (hs := ss.flatten) H rfl rfl rfl (by simp) ?_ ?_ ?_
  · intro k hk
    have hk := hk _ (List.mem_singleton.2 rfl)
    refine .inl fun h hh => ?_
    rw [List.mem_singleton.1 hh]
    unfold Hp.one at hk ⊢
    split at hk
    · cases hk
    · rw [if_neg (by assumption)]
  · intro h hh k o hk
    rw [List.mem_singleton.1 hh] at hk
    obtain ⟨rfl, rfl⟩ := Hp.one_some hk
    simp only [World.setRow, Array.getElem?_modify]
    simp [hwb]
  · intro k _ hk
    have hk := hk _ (List.mem_singleton.2 rfl)
    have : k ≠ b := by rintro rfl; rw [Hp.one_at] at hk; cases hk
    simp only [World.setRow, Array.getElem?_modify]
    rw [if_neg (by omega)]

section ops
variable {P : Program} {ρ : Operand → Value} {E w : World} {ss : List (List Hp)} {K : Value → World → Prop} {dst : Option Tmp} {T : TypeId} {pos : String} {after : Array Edge} {g : Option (Nat × Bool)}

theorem o_capO {x : Operand} {t e : TypeId} {p : Option Addr} {n c : Nat} (ht : P.underlying t = some (.slice e)) (hx : ρ x = .slice p n c) (h : K (.int .i64 (c : Int)) w) :
    OK P ⟨dst, .call ⟨.builtin .cap, #[x], #[t]⟩, T, pos, after, g⟩ ρ w K := o_cap ht hx h

/-- s[i:], s[:j], s[i:j], s[i:j:k] of a row in block b -/
theorem o_rsl {x : Operand} {lo hi mx : Option Operand} {t e : TypeId} {z : Value} {sz by_ b o n cap : Nat} {i j m : Int} (ht : P.underlying t = some (.slice e)) (hti : TI P e z sz by_)
    (hx : ρ x = .slice (some ⟨b, o, none⟩) n cap)
    (hr : ∀ w, (Instr.sliceBounds true n cap (lo.map ρ) (hi.map ρ) (mx.map ρ)).run P w = .ok (i.toNat, j.toNat, m.toNat) w)
    (h0 : 0 ≤ i) (h1 : i ≤ j) (h2 : j ≤ m)
    (hK : ∀ o' n' c' : Nat, (n' : Int) = j - i → (c' : Int) = m - i → (0 < c' → o' = o + i.toNat * sz) → K (.slice (some ⟨b, o', none⟩) n' c') w) : OK P ⟨dst, .slice t x lo hi mx, T, pos, after, g⟩ ρ w K := by
  have e1 : P.elem t = e := by simp [Program.elem, ht]
  have hrun : (Instr.sliceAt t (ρ x) (lo.map ρ) (hi.map ρ) (mx.map ρ)).run P w = .ok (sliced (some ⟨b, o, none⟩) i.toNat j.toNat m.toNat sz) w := by
    rw [hx, run_sliceAt_slice _ _ _ _ _ _ (by rw [e1]; exact ht), run_slice_any _ _ _ _ _ (by rw [e1]; exact ht), hr, e1]
    simp only [Result.andThen_ok, hti.size]
  by_cases hmi : m = i
  · have : sliced (some (⟨b, o, none⟩ : Addr)) i.toNat j.toNat m.toNat sz = .slice (some ⟨b, o, none⟩) (j.toNat - i.toNat) (m.toNat - i.toNat) := by
      unfold sliced; rw [if_pos (by rw [hmi])]
    rw [this] at hrun
    exact OK.val (run_v hrun) (hK o _ _ (by omega) (by omega) (by omega))
  · have : sliced (some (⟨b, o, none⟩ : Addr)) i.toNat j.toNat m.toNat sz = .slice (some ⟨b, o + i.toNat * sz, none⟩) (j.toNat - i.toNat) (m.toNat - i.toNat) := by
      unfold sliced; rw [if_neg (by omega)]; simp [add_lit]
    rw [this] at hrun
    exact OK.val (run_v hrun) (hK _ _ _ (by omega) (by omega) (fun _ => rfl))
theorem rsl_ex (o sz : Nat) {i j m : Int} (h0 : 0 ≤ i) (h1 : i ≤ j) (h2 : j ≤ m) :
    ∃ o' n' c' : Nat, (o' = if m = i then o else o + i.toNat * sz) ∧ (n' : Int) = j - i ∧ (c' : Int) = m - i ∧ (0 < c' → o' = o + i.toNat * sz) :=
  ⟨_, (j - i).toNat, (m - i).toNat, rfl, by omega, by omega, fun h => if_neg (by omega)⟩
theorem o_rsl2 {x : Operand} {lo hi mx : Option Operand} {t e : TypeId} {z : Value} {sz by_ b o n cap o' n' c' : Nat} {i j m : Int} (ht : P.underlying t = some (.slice e)) (hti : TI P e z sz by_)
    (hx : ρ x = .slice (some ⟨b, o, none⟩) n cap)
    (hr : ∀ w, (Instr.sliceBounds true n cap (lo.map ρ) (hi.map ρ) (mx.map ρ)).run P w = .ok (i.toNat, j.toNat, m.toNat) w)
    (h0 : 0 ≤ i) (h1 : i ≤ j) (h2 : j ≤ m) (ho : o' = if m = i then o else o + i.toNat * sz) (hn : (n' : Int) = j - i) (hc : (c' : Int) = m - i)
    (hK : K (.slice (some ⟨b, o', none⟩) n' c') w) : OK P ⟨dst, .slice t x lo hi mx, T, pos, after, g⟩ ρ w K := by
  have e1 : P.elem t = e := by simp [Program.elem, ht]
  have hrun : (Instr.sliceAt t (ρ x) (lo.map ρ) (hi.map ρ) (mx.map ρ)).run P w = .ok (sliced (some ⟨b, o, none⟩) i.toNat j.toNat m.toNat sz) w := by
    rw [hx, run_sliceAt_slice _ _ _ _ _ _ (by rw [e1]; exact ht), run_slice_any _ _ _ _ _ (by rw [e1]; exact ht), hr, e1]
    simp only [Result.andThen_ok, hti.size]
  obtain rfl : n' = j.toNat - i.toNat := by omega
  obtain rfl : c' = m.toNat - i.toNat := by omega
  subst ho
  by_cases hmi : m = i
  · have : sliced (some (⟨b, o, none⟩ : Addr)) i.toNat j.toNat m.toNat sz = .slice (some ⟨b, o, none⟩) (j.toNat - i.toNat) (m.toNat - i.toNat) := by
      unfold sliced; rw [if_pos (by rw [hmi])]
    rw [this] at hrun
    rw [if_pos hmi] at hK
    exact OK.val (run_v hrun) hK
  · have : sliced (some (⟨b, o, none⟩ : Addr)) i.toNat j.toNat m.toNat sz = .slice (some ⟨b, o + i.toNat * sz, none⟩) (j.toNat - i.toNat) (m.toNat - i.toNat) := by
      unfold sliced; rw [if_neg (by omega)]; simp [add_lit]
    rw [this] at hrun
    rw [if_neg hmi] at hK
    exact OK.val (run_v hrun) hK
theorem rsl_ex3 (o sz : Nat) {i j m : Int} (h0 : 0 ≤ i) (h1 : i ≤ j) (h2 : j ≤ m) : ∃ o' n' c' : Nat, (o' = o + i.toNat * sz) ∧ (n' : Int) = j - i ∧ (c' : Int) = m - i :=
  ⟨_, (j - i).toNat, (m - i).toNat, rfl, by omega, by omega⟩
theorem off3 {o o' sz : Nat} {i m : Int} (h : o' = o + i.toNat * sz) (hm : i < m) : o' = if m = i then o else o + i.toNat * sz := by rw [if_neg (by omega)]; exact h
theorem bounds_l {n cap : Nat} {k : IntKind} {i : Int} (h0 : 0 ≤ i) (h1 : i ≤ n) (w : World) :
    (Instr.sliceBounds true n cap (some (.int k i)) none none).run P w = .ok (i.toNat, ((n : Int)).toNat, ((cap : Int)).toNat) w := by
  simp [Instr.sliceBounds, run_sliceBound, h0, h1]
theorem bounds_h {n cap : Nat} {k : IntKind} {j : Int} (h0 : 0 ≤ j) (h1 : j ≤ cap) (w : World) :
    (Instr.sliceBounds true n cap none (some (.int k j)) none).run P w = .ok ((0 : Int).toNat, j.toNat, ((cap : Int)).toNat) w := by
  simp [Instr.sliceBounds, run_sliceBound, h0, h1]
theorem bounds_lh {n cap : Nat} {k k' : IntKind} {i j : Int} (h0 : 0 ≤ i) (h1 : i ≤ j) (h2 : j ≤ cap) (w : World) :
    (Instr.sliceBounds true n cap (some (.int k i)) (some (.int k' j)) none).run P w = .ok (i.toNat, j.toNat, ((cap : Int)).toNat) w := by
  have e : ((j.toNat : Nat) : Int) = j := Int.toNat_of_nonneg (by omega)
  simp [Instr.sliceBounds, run_sliceBound, h0, h1, h2, e, (show 0 ≤ j by omega)]
theorem bounds_lhm {n cap : Nat} {k k' k'' : IntKind} {i j m : Int} (h0 : 0 ≤ i) (h1 : i ≤ j) (h2 : j ≤ m) (h3 : m ≤ cap) (w : World) :
    (Instr.sliceBounds true n cap (some (.int k i)) (some (.int k' j)) (some (.int k'' m))).run P w = .ok (i.toNat, j.toNat, m.toNat) w := by
  have e : ((j.toNat : Nat) : Int) = j := Int.toNat_of_nonneg (by omega)
  have e' : ((m.toNat : Nat) : Int) = m := Int.toNat_of_nonneg (by omega)
  simp [Instr.sliceBounds, run_sliceBound, h0, h1, h2, h3, e, e', (show 0 ≤ j by omega), (show 0 ≤ m by omega)]

/-- copy into a block of one's own -/
theorem o_copy {x y : Operand} {t u e : TypeId} {z v : Value} {sz by_ b o n cap m : Nat} {c : Array Value} {ds : List Value} {L : List Hp} (ht : P.underlying t = some (.slice e)) (hi : TI P e z sz by_)
    (hx : ρ x = .slice (some ⟨b, o, none⟩) n cap) (hy : ρ y = v) (hs : Sl L sz v m ds) (H : Has E w ([Hp.one b (.cells c e (0, 0))] :: ss)) (hL : L ⊆ ([Hp.one b (.cells c e (0, 0))] :: ss).flatten)
    (hfit : 0 < min m n → o + min m n * sz ≤ c.size) (h1 : ∀ u ∈ ds.take (min m n * sz), u.oneCell' = true)
    (hK : ∀ c' w', c'.size = c.size → c'.toList = (if 0 < min m n then c.toList.take o ++ ds.take (min m n * sz) ++ c.toList.drop (o + min m n * sz) else c.toList) → Has E w' ([Hp.one b (.cells c' e (0, 0))] :: ss) → K (.int .i64 ((min m n : Nat) : Int)) w') :
    OK P ⟨dst, .call ⟨.builtin .copy, #[x, y], #[t, u]⟩, T, pos, after, g⟩ ρ w K := by
  obtain ⟨p, cap', rfl, hmc, _, hl, hp⟩ := hs
  obtain ⟨i, hi, hiz, rfl, hiby⟩ := hi
  have hwb : w.heap[b]? = some (.cells c e (0, 0)) := H.at (h := Hp.one b (.cells c e (0, 0))) (by simp) (Hp.one_at _ _)
  by_cases hk : 0 < min m n
  · obtain ⟨b', off, rfl, hc⟩ := hp (by omega)
    have hlen : (ds.take (min m n * i.size)).length = min m n * i.size := by
      rw [List.length_take, hl, Nat.min_eq_left (Nat.mul_le_mul_right _ (Nat.min_le_left _ _))]
    have hload := run_loadCells_list (P := P) (w := w) ⟨b', off, none⟩ (ds.take (min m n * i.size)) (fun j v hv => by
      rw [add_lit]
      refine H.cell hL hc ?_
      rw [List.getElem?_take] at hv
      split at hv
      · exact hv
      · cases hv)
    rw [hlen] at hload
    have hst := run_storeCells_at P b o e (ds.take (min m n * i.size)) 0 c w hwb (by rw [hlen]; exact hfit hk) h1
    simp only [Nat.add_zero, hlen] at hst
    refine o_call_builtin (v := .int .i64 ((min m n : Nat) : Int)) (w' := w.setRow b (c.toList.take o ++ ds.take (min m n * i.size) ++ c.toList.drop (o + min m n * i.size)).toArray) ?_ (hK _ _ ?_ (by rw [if_pos hk]) H.setRow)
    · have hmin : m.min n = min m n := rfl
      simp [hx, hy, builtin, Builtin.copy_, run_underlying ht, Builtin.lenOf, Builtin.firstCells, sizeOf, typeInfo, hi, hmin, hload, hst, goInt]
    · have := hfit hk
      simp only [List.size_toArray, List.length_append, List.length_take, List.length_drop, Array.length_toList, hl]
      have h3 : min m n * i.size ≤ m * i.size := Nat.mul_le_mul_right _ (Nat.min_le_left _ _)
      omega
  · have h0 : min m n = 0 := by omega
    refine o_call_builtin (v := .int .i64 ((min m n : Nat) : Int)) (w' := w) ?_ (hK c _ rfl (by rw [if_neg hk]) H)
    have hmin : m.min n = 0 := h0
    cases p with
    | none => simp [hx, hy, builtin, Builtin.copy_, run_underlying ht, Builtin.lenOf, Builtin.firstCells, sizeOf, typeInfo, hi, hmin, h0, goInt, storeCells]
    | some a => simp [hx, hy, builtin, Builtin.copy_, run_underlying ht, Builtin.lenOf, Builtin.firstCells, sizeOf, typeInfo, hi, hmin, h0, goInt, storeCells, loadCells, loadCellsFrom]

/-- append(s, make(S, m)...) where there is no room -/
theorem o_appmake {x y : Operand} {t u e : TypeId} {z : Value} {sz by_ n cap m : Nat} {kk k : IntKind} {q : Int} {cs : List Value} {L : List Hp} {p : Option Addr} (ht : P.underlying t = some (.slice e)) (hu : P.underlying u = some (.int kk)) (hi : TI P e z sz by_)
    (hz : z.cells.size = sz) (hsz : 0 < sz) (hx : ρ x = .slice p n cap) (hs : Sl L sz (.slice p n cap) n cs) (hy : ρ y = .int k q) (hq : q = (m : Int)) (H : Has E w ss) (hL : L ⊆ ss.flatten) (hroom : cap < n + m) (hb : (n + m) * by_ ≤ 140737488355328) (h63 : n + m ≤ 9223372036854775807)
    (hK : ∀ b c cap' w', c.size = cap' * sz → n + m ≤ cap' → cap' ≤ 9223372036854775807 → c.toList.take (n * sz) = cs → Has E w' ([Hp.one b (.cells c e (0, 0))] :: ss) → K (.slice (some ⟨b, 0, none⟩) (n + m) cap') w') :
    OK P ⟨dst, .call ⟨.builtin .append, #[x, y], #[t, u]⟩, T, pos, after, g⟩ ρ w K := by
  subst hq
  obtain ⟨p', cap0, e0, hnc, hcm, hl, hp⟩ := hs
  cases e0
  obtain ⟨i, hi, hiz, rfl, rfl⟩ := hi
  have hlb : m * i.bytes ≤ 140737488355328 := Nat.le_trans (Nat.mul_le_mul_right _ (Nat.le_add_left _ _)) hb
  have hw : IntKind.i64.wrap (m : Int) = m := w64 (by omega) (by omega)
  have n1 : ¬ ((m : Int) < 0) := by omega
  have n2 : ¬ ((281474976710656 : Int) < (m : Int) * (i.bytes : Int)) := by
    have h2 := Int.ofNat_le.2 hlb; rw [Int.natCast_mul] at h2; omega
  have n3 : ¬ (n + m ≤ cap) := by omega
  have n4 : ¬ ((9223372036854775807 : Int) < (n : Int) + (m : Int)) := by omega
  have n5 : ¬ (281474976710656 < Builtin.nextslicecap (n + m) cap * i.bytes) := by
    have := growslice_fits hroom hb; omega
  have hf : ∀ w' : World, (∀ a, w'.cell? a = w.cell? a) → (Builtin.firstCells i.size n (.slice p n cap)).run P w' = .ok cs.toArray w' := by
    intro w' hw'
    by_cases hn : n = 0
    · subst hn
      have : cs = [] := by simpa using hl
      subst this
      cases p <;> simp [Builtin.firstCells, loadCells, loadCellsFrom]
    · obtain ⟨b, off, rfl, hc⟩ := hp (by omega)
      have := run_loadCells_list (P := P) (w := w') ⟨b, off, none⟩ cs (fun j v hv => by rw [add_lit, hw']; exact H.cell hL hc hv)
      rw [hl] at this
      simpa [Builtin.firstCells] using this
  have hf' := hf w.drew (fun a => rfl)
  have hge := grownCap_ge w (n + m) cap e
  have hcm' : grownCap w (n + m) cap e ≤ maxLen := grownCap_le_maxLen w (n + m) cap e (by simpa [maxLen] using h63)
  have hm0 : ¬ (m * i.size = 0) := fun h => by rcases Nat.mul_eq_zero.1 h with h | h <;> omega
  refine o_call_builtin (w' := w.drew.alloc (.cells (cs.toArray ++ Builtin.zeroCells z.cells m ++ Builtin.zeroCells z.cells (grownCap w (n + m) cap e - (n + m))) e)) ?_ (hK w.heap.size _ (grownCap w (n + m) cap e) _ ?_ hge (by simpa [maxLen] using hcm') ?_ (Has.alloc (H.drew _) _))
  · simp [hx, hy, builtin, Builtin.append_, run_underlying ht, run_underlying hu, sizeOf, typeInfo, zeroValue, hi, hiz, asInt, asIntOf, hw, n1, n2, n3, n4, n5, hm0, Question.forced, hf', newRow, grownCap]
  · simp only [Array.size_append, List.size_toArray, size_zeroCells, hz, hl]
    rw [← Nat.add_mul, ← Nat.add_mul]; congr 1; omega
  · simp [← hl]

/-- append into the room that a block of one's own has -/
theorem o_approom {x y : Operand} {t e : TypeId} {z v : Value} {sz by_ b o n cap m : Nat} {c : Array Value} {ds : List Value} {L : List Hp} (ht : P.underlying t = some (.slice e)) (hi : TI P e z sz by_)
    (hx : ρ x = .slice (some ⟨b, o, none⟩) n cap) (hy : ρ y = v) (hs : Sl L sz v m ds) (H : Has E w ([Hp.one b (.cells c e (0, 0))] :: ss)) (hL : L ⊆ ([Hp.one b (.cells c e (0, 0))] :: ss).flatten)
    (hroom : n + m ≤ cap) (hfit : 0 < m → o + (n + m) * sz ≤ c.size) (h1 : ∀ u ∈ ds, u.oneCell' = true)
    (hK : ∀ c' w', c'.size = c.size → c'.toList = (if 0 < m then c.toList.take (o + n * sz) ++ ds ++ c.toList.drop (o + (n + m) * sz) else c.toList) → Has E w' ([Hp.one b (.cells c' e (0, 0))] :: ss) → K (.slice (some ⟨b, o, none⟩) (n + m) cap) w') :
    OK P ⟨dst, .call ⟨.builtin .append, #[x, y], #[t, t]⟩, T, pos, after, g⟩ ρ w K := by
  obtain ⟨p, cap', rfl, hmc, _, hl, hp⟩ := hs
  obtain ⟨i, hi, hiz, rfl, hiby⟩ := hi
  have hwb : w.heap[b]? = some (.cells c e (0, 0)) := H.at (h := Hp.one b (.cells c e (0, 0))) (by simp) (Hp.one_at _ _)
  by_cases hm : 0 < m
  · obtain ⟨b', off, rfl, hc⟩ := hp hm
    have hload := run_loadCells_list (P := P) (w := w) ⟨b', off, none⟩ ds (fun j v hv => by rw [add_lit]; exact H.cell hL hc hv)
    rw [hl] at hload
    have hf := hfit hm
    rw [Nat.add_mul] at hf
    have hst := run_storeCells_at P b (o + n * i.size) e ds 0 c w hwb (by rw [hl]; omega) h1
    simp only [Nat.add_zero, hl] at hst
    refine o_call_builtin (w' := w.setRow b (c.toList.take (o + n * i.size) ++ ds ++ c.toList.drop (o + n * i.size + m * i.size)).toArray) ?_ (hK _ _ (by simp only [List.size_toArray, List.length_append, List.length_take, List.length_drop, Array.length_toList, hl]; omega) (by rw [if_pos hm, Nat.add_mul, Nat.add_assoc]) H.setRow)
    simp [hx, hy, builtin, Builtin.append_, run_underlying ht, Builtin.lenOf, Builtin.firstCells, sizeOf, typeInfo, hi, hroom, hload, add_lit, hst]
  · have h0 : m = 0 := by omega
    subst h0
    refine o_call_builtin (w' := w) ?_ (hK c _ rfl (by rw [if_neg hm]) H)
    have hr : n ≤ cap := hroom
    cases p with
    | none => simp [hx, hy, builtin, Builtin.append_, run_underlying ht, Builtin.lenOf, Builtin.firstCells, sizeOf, typeInfo, hi, hr, storeCells]
    | some a => simp [hx, hy, builtin, Builtin.append_, run_underlying ht, Builtin.lenOf, Builtin.firstCells, sizeOf, typeInfo, hi, hr, storeCells, loadCells, loadCellsFrom]

/-- clear of a part of a block of one's own -/
theorem o_clear {x : Operand} {t e : TypeId} {z : Value} {sz by_ b o n cap : Nat} {c : Array Value} (ht : P.underlying t = some (.slice e)) (hi : TI P e z sz by_) (hzs : z.cells.size = sz)
    (hx : ρ x = .slice (some ⟨b, o, none⟩) n cap) (H : Has E w ([Hp.one b (.cells c e (0, 0))] :: ss)) (hfit : 0 < n → o + n * sz ≤ c.size) (h1 : ∀ u ∈ z.cells, u.oneCell' = true)
    (hK : ∀ c' w' v, c'.toList.length = c.toList.length → c'.toList.take o = c.toList.take o → Has E w' ([Hp.one b (.cells c' e (0, 0))] :: ss) → K v w') :
    OK P ⟨dst, .call ⟨.builtin .clear, #[x], #[t]⟩, T, pos, after, g⟩ ρ w K := by
  obtain ⟨i, hi, hiz, rfl, hiby⟩ := hi
  have hwb : w.heap[b]? = some (.cells c e (0, 0)) := H.at (h := Hp.one b (.cells c e (0, 0))) (by simp) (Hp.one_at _ _)
  cases n with
  | zero =>
    refine o_call_builtin (v := .tuple #[]) (w' := w) ?_ (hK c _ _ rfl rfl H)
    simp [hx, builtin, Builtin.clear_, run_underlying ht]
  | succ n =>
    have hlen : (Builtin.zeroCells z.cells (n + 1)).toList.length = (n + 1) * i.size := by rw [Array.length_toList, size_zeroCells, hzs]
    have hst := run_storeCells_at P b o e (Builtin.zeroCells z.cells (n + 1)).toList 0 c w hwb (by rw [hlen]; exact hfit (by omega)) (by
      intro u hu
      unfold Builtin.zeroCells at hu
      rw [Array.mem_toList_iff, Array.mem_map] at hu
      obtain ⟨j, hj, rfl⟩ := hu
      have hj' := Array.mem_range.1 hj
      have hp : 0 < z.cells.size := by
        rcases Nat.eq_zero_or_pos z.cells.size with h | h
        · rw [h] at hj'; omega
        · exact h
      have hlt : j % z.cells.size < z.cells.size := Nat.mod_lt _ hp
      refine h1 _ ?_
      rw [getElem!_pos z.cells (j % z.cells.size) hlt]
      exact Array.getElem_mem hlt)
    simp only [Nat.add_zero, hlen] at hst
    have hf := hfit (by omega)
    refine o_call_builtin (v := .tuple #[]) (w' := w.setRow b (c.toList.take o ++ (Builtin.zeroCells z.cells (n + 1)).toList ++ c.toList.drop (o + (n + 1) * i.size)).toArray) ?_ (hK _ _ _ ?_ ?_ H.setRow)
    · simp [hx, builtin, Builtin.clear_, run_underlying ht, zeroValue, typeInfo, hi, hiz, hst]
    · simp only [List.length_append, List.length_take, List.length_drop, hlen, Array.length_toList]; omega
    · rw [List.append_assoc, List.take_left']
      rw [List.length_take, Array.length_toList]; omega

/-- slices.overlaps of rows in two blocks -/
theorem o_overlaps {f : FuncId} {fn : Func} {x y : Operand} {ts : Array TypeId} {tS tR e : TypeId} {z : Value} {sz by_ b b' o o' la ca lb cb : Nat} {c c' : Array Value} {U U' : TypeId} (hf : P.funcs[f]? = some fn) (hname : (fn.name == "runtime.NumGoroutine") = false)
    (hb : fn.body.isNone = true) (hn : Extern.findNext fn = none) (he : Extern.find fn = some (Extern.SlicesOverlaps.overlaps #[tS, tS] #[tR])) (ht : P.underlying tS = some (.slice e)) (hi : TI P e z sz by_)
    (hx : ρ x = .slice (some ⟨b, o, none⟩) la ca) (hy : ρ y = .slice (some ⟨b', o', none⟩) lb cb) (H : Has E w ([Hp.one b (.cells c U (0, 0))] :: [Hp.one b' (.cells c' U' (0, 0))] :: ss)) (hc' : c'.size ≠ 0)
    (hρ : ρ (.func f) = .func (.func f) #[] #[]) (hK : K (.bool false) w) : OK P ⟨dst, .call ⟨.value (.func f), #[x, y], ts⟩, T, pos, after, g⟩ ρ w K := by
  have hwb : w.heap[b]? = some (.cells c U (0, 0)) := H.at (h := Hp.one b (.cells c U (0, 0))) (by simp) (Hp.one_at _ _)
  have hwb' : w.heap[b']? = some (.cells c' U' (0, 0)) := H.at (h := Hp.one b' (.cells c' U' (0, 0))) (by simp) (Hp.one_at _ _)
  have hne : b ≠ b' := by
    rintro rfl
    have hd := H.dj
    simp only [List.flatten_cons, List.singleton_append, List.pairwise_cons] at hd
    rcases hd.1 _ (List.mem_cons_self ..) b with h | h <;> rw [Hp.one_at] at h <;> cases h
  have hov := Lib.run_overlaps_apart (P := P) w tS tR e ht sz (fun w => hi.size w) ⟨b, o, none⟩ ⟨b', o', none⟩ la ca lb cb hne U U' c.size c'.size (by simp [World.shape?, hwb]) (by simp [World.shape?, hwb']) hc'
    (by simp [World.frozen?, hwb]) (by simp [World.frozen?, hwb])
  have hr : (execOp ρ ⟨dst, .call ⟨.value (.func f), #[x, y], ts⟩, T, pos, after, g⟩).run P w = .ok (.value (.bool false)) w := by
    have := run_callFunc_extern (P := P) hf hname hb hn he #[.slice (some ⟨b, o, none⟩) la ca, .slice (some ⟨b', o', none⟩) lb cb] w
    rw [hov] at this
    simpa [execOp, resolve, hρ, Deferred.ofValue, invoke, hx, hy] using this
  exact OK.val hr hK
end ops
end Go.Q
namespace Go.Q
theorem insA {α : Type} {c c0 c1 c2 u : List α} {I N D j0 o0 o1 m1 k1 r1 o2 s2 m2 k2 r2 : Nat} (h0 : c0.take j0 = (c.drop o0).take j0) (h1 : c1 = c0.take o1 ++ ((u.drop 0).take m1).take k1 ++ c0.drop r1)
    (h2 : c2 = c1.take o2 ++ ((c.drop s2).take m2).take k2 ++ c1.drop r2) (hj : j0 = I) (ho0 : o0 = 0) (ho1 : o1 = I) (hm1 : m1 = D) (hk1 : k1 = D) (hr1 : r1 = I + D) (ho2 : o2 = I + D) (hs2 : s2 = I) (hm2 : m2 = N - I) (hk2 : k2 = N - I) (hr2 : r2 = N + D)
    (hu : u.length = D) (hIN : I ≤ N) (hNc : N ≤ c.length) (hl : N + D ≤ c0.length) : c2.take (N + D) = c.take I ++ u ++ (c.take N).drop I := by
  rw [hj, ho0] at h0; rw [ho1, hm1, hk1, hr1] at h1; rw [ho2, hs2, hm2, hk2, hr2] at h2
  have e1 : u.take D = u := List.take_of_length_le (by omega)
  have l1 : (c.take I ++ u).length = I + D := by simp only [List.length_append, List.length_take]; omega
  have t1 : c1.take (I + D) = c.take I ++ u := by
    rw [h1, h0, List.drop_zero, List.drop_zero, List.take_take, Nat.min_self, e1, List.take_left' l1]
  have l2 : (c.take I ++ u ++ (c.take N).drop I).length = N + D := by simp only [List.length_append, List.length_drop, List.length_take] at l1 ⊢; omega
  rw [h2, t1, List.take_take, Nat.min_self, ← List.drop_take, List.take_left' l2]
theorem insB {α : Type} {c c1 c2 u : List α} {I N D o1 s1 m1 k1 r1 o2 m2 k2 r2 : Nat} (h1 : c1 = c.take o1 ++ ((c.drop s1).take m1).take k1 ++ c.drop r1)
    (h2 : c2 = c1.take o2 ++ ((u.drop 0).take m2).take k2 ++ c1.drop r2) (ho1 : o1 = I + D) (hs1 : s1 = I) (hm1 : m1 = N + D - I) (hk1 : k1 = N - I) (hr1 : r1 = N + D) (ho2 : o2 = I) (hm2 : m2 = D) (hk2 : k2 = D) (hr2 : r2 = I + D)
    (hu : u.length = D) (hIN : I ≤ N) (hl : N + D ≤ c.length) : c2.take (N + D) = c.take I ++ u ++ (c.take N).drop I := by
  rw [ho1, hs1, hm1, hk1, hr1] at h1; rw [ho2, hm2, hk2, hr2] at h2
  have e1 : u.take D = u := List.take_of_length_le (by omega)
  have e2 : ((c.drop I).take (N + D - I)).take (N - I) = (c.take N).drop I := by rw [List.take_take, Nat.min_eq_left (by omega), ← List.drop_take]
  have l0 : (c.take (I + D)).length = I + D := by rw [List.length_take]; omega
  have t1 : c1.take I = c.take I := by rw [h1, e2, List.append_assoc, List.take_append_of_le_length (by omega), List.take_take, Nat.min_eq_left (by omega)]
  have t2 : c1.drop (I + D) = (c.take N).drop I ++ c.drop (N + D) := by rw [h1, e2, List.append_assoc, List.drop_left' l0]
  have l2 : (c.take I ++ u ++ (c.take N).drop I).length = N + D := by simp only [List.length_append, List.length_drop, List.length_take]; omega
  rw [h2, t1, t2, List.drop_zero, List.take_take, Nat.min_self, e1, ← List.append_assoc, List.take_left' l2]
theorem ins_len {α : Type} {c u : List α} {I N D : Nat} (hu : u.length = D) (hIN : I ≤ N) (hN : N ≤ c.length) : (c.take I ++ u ++ (c.take N).drop I).length = N + D := by
  simp only [List.length_append, List.length_drop, List.length_take]; omega
theorem mem_part {α : Type} {c : List α} {u : α} {o a b N : Nat} (h : u ∈ ((c.drop o).take a).take b) (hb : o + b ≤ N) : u ∈ c.take N := by
  have h := List.mem_of_mem_take (l := (c.drop o).take b) (i := a) (by rw [List.take_take] at h ⊢; rwa [Nat.min_comm])
  rw [List.take_drop] at h
  have h := List.mem_of_mem_drop h
  exact (List.take_sublist_take_left hb).subset h
theorem lo_step {l : List Int} {k : Nat} {e x : Int} (hs : l.Pairwise (· < ·)) (h : l[k]? = some e) (he : e < x) : ∀ a ∈ l.take (k + 1), a < x := by
  intro a ha
  obtain ⟨j, hj⟩ := List.mem_iff_getElem?.1 ha
  rw [List.getElem?_take] at hj
  split at hj
  · obtain ⟨h1, h2⟩ := List.getElem?_eq_some_iff.1 hj
    obtain ⟨h3, h4⟩ := List.getElem?_eq_some_iff.1 h
    rcases Nat.lt_or_ge j k with g | g
    · have := List.pairwise_iff_getElem.1 hs j k h1 h3 g; omega
    · have : j = k := by omega
      subst this; omega
  · cases hj
theorem hi_step {l : List Int} {k : Nat} {e x : Int} (hs : l.Pairwise (· < ·)) (h : l[k]? = some e) (he : ¬ e < x) : ∀ a ∈ l.drop k, x ≤ a := by
  intro a ha
  obtain ⟨j, hj⟩ := List.mem_iff_getElem?.1 ha
  rw [List.getElem?_drop] at hj
  obtain ⟨h1, h2⟩ := List.getElem?_eq_some_iff.1 hj
  obtain ⟨h3, h4⟩ := List.getElem?_eq_some_iff.1 h
  rcases Nat.eq_zero_or_pos j with g | g
  · subst g; simp only [Nat.add_zero] at h2; omega
  · have := List.pairwise_iff_getElem.1 hs k (k + j) h3 h1 (by omega); omega
theorem bs_no {l : List Int} {i : Nat} {x : Int} (hs : l.Pairwise (· < ·)) (hlo : ∀ a ∈ l.take i, a < x) (hhi : ∀ a ∈ l.drop i, x ≤ a) (h : ∀ e, l[i]? = some e → e ≠ x) : x ∉ l := by
  intro hx
  rw [← List.take_append_drop i l, List.mem_append] at hx
  rcases hx with hx | hx
  · have := hlo x hx; omega
  · obtain ⟨j, hj⟩ := List.mem_iff_getElem?.1 hx
    rw [List.getElem?_drop] at hj
    obtain ⟨h1, h2⟩ := List.getElem?_eq_some_iff.1 hj
    have h3 : i < l.length := by omega
    have h4 := h _ (List.getElem?_eq_getElem h3)
    have h5 : l[i] ∈ l.drop i := List.mem_iff_getElem?.2 ⟨0, by rw [List.getElem?_drop]; simp [h3]⟩
    have h6 := hhi _ h5
    rcases Nat.eq_zero_or_pos j with g | g
    · subst g; exact h4 (by simpa using h2)
    · have := List.pairwise_iff_getElem.1 hs i (i + j) h3 h1 (by omega); omega
theorem wu64 {x : Int} (h0 : 0 ≤ x) (h1 : x ≤ 18446744073709551615) : IntKind.wrap .u64 x = x := by
  simp only [IntKind.wrap, IntKind.bits, IntKind.signed]
  simp only [show (2:Int)^64 = 18446744073709551616 from rfl]
  simp
  omega
section ops
variable {P : Program} {ρ : Operand → Value} {E w : World} {ss : List (List Hp)} {K : Value → World → Prop} {dst : Option Tmp} {T : TypeId} {pos : String} {after : Array Edge} {g : Option (Nat × Bool)}
/-- s[i:] of a row that is read -/
theorem o_sl_l {x y : Operand} {t e : TypeId} {zz : Value} {v : Value} {sz by_ n : Nat} {cs : List Value} {L : List Hp} {k : IntKind} {i : Int} (ht : P.underlying t = some (.slice e)) (hi : TI P e zz sz by_)
    (hx : ρ x = v) (hs : Sl L sz v n cs) (hy : ρ y = .int k i) (h0 : 0 ≤ i) (h1 : i ≤ n)
    (hK : ∀ v', Sl L sz v' (n - i.toNat) (cs.drop (i.toNat * sz)) → K v' w) : OK P ⟨dst, .slice t x (some y) none none, T, pos, after, g⟩ ρ w K := by
  have e1 : P.elem t = e := by simp [Program.elem, ht]
  obtain ⟨p, cap, rfl⟩ := hs.form
  have hs' := hs
  obtain ⟨p', cap', e2, hnc, hcm, hl, hp⟩ := hs
  cases e2
  have hrun : (Instr.sliceAt t (ρ x) ((some y).map ρ) ((none : Option Operand).map ρ) ((none : Option Operand).map ρ)).run P w = .ok (sliced p i.toNat n cap sz) w := by
    simp only [hx, hy, Option.map_some, Option.map_none]
    rw [run_sliceAt_slice _ _ _ _ _ _ (by rw [e1]; exact ht), run_slice_any _ _ _ _ _ (by rw [e1]; exact ht), bounds_l h0 h1, e1]
    simp only [Result.andThen_ok, hi.size, Int.toNat_natCast]
  refine OK.val (run_v hrun) (hK _ ?_)
  unfold sliced
  refine ⟨_, _, rfl, by omega, by omega, ?_, fun h => ?_⟩
  · rw [List.length_drop, hl, Nat.sub_mul]
  · obtain ⟨b, off, rfl, hc⟩ := hp (by omega)
    rw [if_neg (by omega)]
    refine ⟨b, off + i.toNat * sz, ?_, hc.drop⟩
    simp [add_lit]
end ops
theorem sl_dropm {α : Type} {f : α → Value} {l : List α} {L : List Hp} {v : Value} {k : Nat} (h : Sl L 1 v (l.length - k) ((l.map f).drop (k * 1))) : Sl L 1 v (l.drop k).length ((l.drop k).map f) := by
  rw [List.length_drop, List.map_drop]; simpa using h
theorem sl_partm {α : Type} {f : α → Value} {l : List α} {L : List Hp} {v : Value} {i j : Nat} (h : Sl L 1 v (j - i) (((l.map f).take (j * 1)).drop (i * 1))) (_hi : i ≤ j) (hj : j ≤ l.length) : Sl L 1 v ((l.take j).drop i).length (((l.take j).drop i).map f) := by
  rw [List.length_drop, List.length_take, Nat.min_eq_left hj, List.map_drop, List.map_take]; simpa using h
end Go.Q
namespace Go.Q
theorem drop_of {α : Type} {l : List α} {k : Nat} {x : α} (h : l[k]? = some x) : l.drop k = x :: l.drop (k + 1) := by
  obtain ⟨hlt, rfl⟩ := List.getElem?_eq_some_iff.1 h
  exact List.drop_eq_getElem_cons hlt
def sumS (s : Int) : List Int → Int
  | [] => s
  | n :: l => if 9223372036854775807 - s < n then 9223372036854775807 else sumS (s + max n 0) l
def fitsS (n : Int) (m : Nat) : Bool := decide (0 ≤ n) && (decide ((m : Int) = 8) || decide (Int.fdiv n (2 ^ (min (8 * (m : Int)).toNat 64)) = 0))
/-- a number's j lowest bytes, the highest first -/
def beFrom (n : Int) : Nat → List UInt8
  | 0 => []
  | j + 1 => by8 (n / 2 ^ (8 * j)) :: beFrom n j
theorem beFrom_pred {n : Int} {j : Nat} (h : 0 < j) : beFrom n j = by8 (n / 2 ^ (8 * (j - 1))) :: beFrom n (j - 1) := by
  obtain ⟨j, rfl⟩ : ∃ i, j = i + 1 := ⟨j - 1, by omega⟩
  rfl
theorem by8_shift (n : Int) {j : Nat} (h : 1 ≤ j) (h8 : j ≤ 8) : by8 (Int.fdiv n (2 ^ (min (8 * ((j : Int) - 1)).toNat 64))) = by8 (n / 2 ^ (8 * (j - 1))) := by
  have e : min (8 * ((j : Int) - 1)).toNat 64 = 8 * (j - 1) := by omega
  rw [e, Int.fdiv_eq_ediv_of_nonneg _ (by exact Int.le_of_lt (Int.pow_pos (by omega)))]
theorem beFrom_length (n : Int) (j : Nat) : (beFrom n j).length = j := by induction j <;> simp [beFrom, *]
def putS (m : Nat) (l : List Int) : List UInt8 := if 1 ≤ m ∧ m ≤ 8 ∧ ∀ x ∈ l, fitsS x m = true then l.flatMap (beFrom · m) else []
theorem putS_no {m : Nat} {l : List Int} {x : Int} (h : x ∈ l) (hf : fitsS x m = false) : putS m l = [] := by
  rw [putS, if_neg]
  rintro ⟨_, _, h3⟩
  rw [h3 x h] at hf; cases hf
theorem putS_yes {m : Nat} {l : List Int} (h1 : 1 ≤ m) (h8 : m ≤ 8) (h : ∀ x ∈ l, fitsS x m = true) : putS m l = l.flatMap (beFrom · m) := by
  rw [putS, if_pos ⟨h1, h8, h⟩]
/-- bytes as a number, the highest first -/
def beVal (l : List UInt8) : Int := l.foldl (fun n b => n * 256 + b.toNat) 0
theorem beVal_snoc (l : List UInt8) (b : UInt8) : beVal (l ++ [b]) = beVal l * 256 + b.toNat := by simp [beVal]
theorem beVal_nonneg (l : List UInt8) : 0 ≤ beVal l := by
  have : ∀ (l : List UInt8) (n : Int), 0 ≤ n → 0 ≤ l.foldl (fun n b => n * 256 + (b.toNat : Int)) n := by
    intro l
    induction l with
    | nil => intro n h; exact h
    | cons b l ih => intro n h; exact ih _ (show 0 ≤ n * 256 + (b.toNat : Int) by omega)
  exact this l 0 (by omega)
theorem foldl_bound : ∀ (l : List UInt8) (n : Int), 0 ≤ n → l.foldl (fun n b => n * 256 + (b.toNat : Int)) n < (n + 1) * 256 ^ l.length := by
  intro l
  induction l with
  | nil => intro n _; simp; omega
  | cons b l ih =>
    intro n h
    have hb := b.toNat_lt
    refine Int.lt_of_lt_of_le (ih (n * 256 + b.toNat) (by omega)) ?_
    have h1 : (n * 256 + (b.toNat : Int) + 1) ≤ (n + 1) * 256 := by omega
    have h2 : (0 : Int) ≤ 256 ^ l.length := Int.le_of_lt (Int.pow_pos (by omega))
    have h3 := Int.mul_le_mul_of_nonneg_right h1 h2
    rw [List.length_cons, Int.pow_succ, ← Int.mul_assoc, Int.mul_right_comm]
    exact h3
theorem beVal_lt_pow (l : List UInt8) : beVal l < 256 ^ l.length := by
  have := foldl_bound l 0 (by omega); simpa [beVal] using this
theorem pow_mono {a b : Nat} (h : a ≤ b) : (256 : Int) ^ a ≤ 256 ^ b := by
  have h2 := Int.ofNat_le.2 (Nat.pow_le_pow_right (n := 256) (by omega) h)
  rw [Int.natCast_pow, Int.natCast_pow] at h2
  exact h2
theorem beVal_lt {s : List UInt8} {i m : Nat} (h : i < m) (h8 : m ≤ 8) (hs : m ≤ s.length) (hc : m ≤ 7 ∨ ∀ c, s[0]? = some c → c.toNat ≤ 127) : beVal (s.take i) < 36028797018963968 := by
  have hl : (s.take i).length = i := by rw [List.length_take]; omega
  rcases hc with hc | hc
  · have h1 := beVal_lt_pow (s.take i)
    rw [hl] at h1
    have h2 := pow_mono (show i ≤ 6 by omega)
    have : (256 : Int) ^ 6 = 281474976710656 := by decide
    omega
  · cases i with
    | zero => simp [beVal]
    | succ i =>
      cases s with
      | nil => simp at hs; omega
      | cons c s =>
        have hcc := hc c rfl
        rw [List.take_succ_cons]
        have h1 := foldl_bound (s.take i) c.toNat (by omega)
        have hl' : (s.take i).length = i := by simpa using hl
        rw [hl'] at h1
        have h2 := pow_mono (show i ≤ 6 by omega)
        have h3 : (256 : Int) ^ 6 = 281474976710656 := by decide
        have h4 : ((c.toNat : Int) + 1) * 256 ^ i ≤ 128 * 256 ^ i := Int.mul_le_mul_of_nonneg_right (by omega) (Int.le_of_lt (Int.pow_pos (by omega)))
        have h5 : beVal (c :: s.take i) = (s.take i).foldl (fun n b => n * 256 + (b.toNat : Int)) c.toNat := by simp [beVal]
        rw [h5]
        omega
theorem or8 {x : Int} (h0 : 0 ≤ x) (h1 : x < 36028797018963968) (b : UInt8) : IntKind.wrap .i64 ((BitVec.ofInt 64 (x * 256) ||| BitVec.ofInt 64 (b.toNat : Int)).toNat : Int) = x * 256 + b.toNat := by
  obtain ⟨n, rfl⟩ := Int.eq_ofNat_of_zero_le h0
  have hb := b.toNat_lt
  have e1 : (BitVec.ofInt 64 ((n : Int) * 256)).toNat = n * 256 := by
    rw [show ((n : Int) * 256) = ((n * 256 : Nat) : Int) by omega, BitVec.ofInt_natCast, BitVec.toNat_ofNat]
    exact Nat.mod_eq_of_lt (by omega)
  have e2 : (BitVec.ofInt 64 (b.toNat : Int)).toNat = b.toNat := by
    rw [BitVec.ofInt_natCast, BitVec.toNat_ofNat]
    exact Nat.mod_eq_of_lt (by omega)
  have e3 : n * 256 ||| b.toNat = n * 256 + b.toNat := by
    have := Nat.shiftLeft_add_eq_or_of_lt (i := 8) (b := b.toNat) (by omega) n
    rw [Nat.shiftLeft_eq, show 2 ^ 8 = 256 from rfl] at this
    omega
  rw [BitVec.toNat_or, e1, e2, e3]
  rw [w64 (by omega) (by omega)]
  omega
def takeS (s : List UInt8) (m : Nat) : Int × List UInt8 × Bool :=
  if 1 ≤ m ∧ m ≤ 8 ∧ m ≤ s.length ∧ (m ≤ 7 ∨ ∀ c, s[0]? = some c → c.toNat ≤ 127) then (beVal (s.take m), s.drop m, true) else (0, s, false)
theorem takeS_yes {s : List UInt8} {m : Nat} (h1 : 1 ≤ m) (h2 : m ≤ 8) (h3 : m ≤ s.length) (h4 : m ≤ 7 ∨ ∀ c, s[0]? = some c → c.toNat ≤ 127) : takeS s m = (beVal (s.take m), s.drop m, true) := by
  rw [takeS, if_pos ⟨h1, h2, h3, h4⟩]
theorem takeS_no {s : List UInt8} {m : Nat} (h : (m < 1 ∨ 8 < m) ∨ s.length < m ∨ (m = 8 ∧ ∃ c, s[0]? = some c ∧ 127 < c.toNat)) : takeS s m = (0, s, false) := by
  rw [takeS, if_neg]
  rintro ⟨h1, h2, h3, h4⟩
  rcases h with h | h | ⟨h, c, hc, hh⟩
  · omega
  · omega
  · rcases h4 with h4 | h4
    · omega
    · have := h4 c hc; omega
end Go.Q
namespace Go.Q
theorem Has.all3 {E w : World} {s t u : List Hp} {ss : List (List Hp)} (H : Has E w (s :: t :: u :: ss)) : Has E w [s, t, u, ss.flatten] := by unfold Has at *; simpa using H
theorem Has.of_all3 {E w : World} {s t u : List Hp} {ss : List (List Hp)} (H : Has E w [s, t, u, ss.flatten]) : Has E w (s :: t :: u :: ss) := by unfold Has at *; simpa using H
theorem Has.all4 {E w : World} {s t u x : List Hp} {ss : List (List Hp)} (H : Has E w (s :: t :: u :: x :: ss)) : Has E w [s, t, u, x, ss.flatten] := by unfold Has at *; simpa using H
theorem Has.of_all4 {E w : World} {s t u x : List Hp} {ss : List (List Hp)} (H : Has E w [s, t, u, x, ss.flatten]) : Has E w (s :: t :: u :: x :: ss) := by unfold Has at *; simpa using H
theorem Sl.one {L : List Hp} {sz n : Nat} {v : Value} {cs : List Value} (h : Sl L sz v n cs) : v.oneCell' = true := by obtain ⟨p, c, rfl⟩ := h.form; rfl
theorem Own.one {e : TypeId} {sz n : Nat} {v : Value} {cs : List Value} {hs : List Hp} (h : Own e sz v n cs hs) : v.oneCell' = true := h.sl.one
theorem same_step {a b : List Int} {k : Nat} {x y : Int} (he : ∀ j, j < k → a[j]? = b[j]?) (h1 : a[k]? = some x) (h2 : b[k]? = some y) (e : x = y) : ∀ j, j < k + 1 → a[j]? = b[j]? := fun j hj => by
  rcases Nat.lt_or_ge j k with g | g
  · exact he j g
  · have : j = k := by omega
    subst this; rw [h1, h2, e]
theorem mem_step_in {now cur l : List Int} {k : Nat} {x : Int} (hm : ∀ a, a ∈ cur ↔ a ∈ now ∨ a ∈ l.take k) (hx : l[k]? = some x) (h : x ∈ cur) : ∀ a, a ∈ cur ↔ a ∈ now ∨ a ∈ l.take (k + 1) := by
  intro a; rw [take_succ_of hx, List.mem_append, List.mem_singleton, ← or_assoc, ← hm a]
  exact ⟨.inl, fun g => g.elim id fun e => e ▸ h⟩
theorem mem_step_add {now cur l : List Int} {k p : Nat} {x : Int} (hm : ∀ a, a ∈ cur ↔ a ∈ now ∨ a ∈ l.take k) (hx : l[k]? = some x) : ∀ a, a ∈ cur.take p ++ [x] ++ cur.drop p ↔ a ∈ now ∨ a ∈ l.take (k + 1) := by
  intro a; rw [take_succ_of hx, List.mem_append, List.mem_append, List.mem_append, List.mem_singleton, ← or_assoc, ← hm a]
  rw [show (a ∈ cur) ↔ (a ∈ cur.take p ∨ a ∈ cur.drop p) from by rw [← List.mem_append, List.take_append_drop]]
  constructor
  · rintro ((h | h) | h)
    · exact .inl (.inl h)
    · exact .inr h
    · exact .inl (.inr h)
  · rintro ((h | h) | h)
    · exact .inl (.inl h)
    · exact .inr h
    · exact .inl (.inr h)
theorem ins_sorted {cur : List Int} {p : Nat} {x : Int} (hs : cur.Pairwise (· < ·)) (hlo : ∀ a ∈ cur.take p, a < x) (hhi : ∀ a ∈ cur.drop p, x ≤ a) (h : x ∉ cur) : (cur.take p ++ [x] ++ cur.drop p).Pairwise (· < ·) := by
  have hs' := hs
  rw [← List.take_append_drop p cur, List.pairwise_append] at hs'
  obtain ⟨h1, h2, h3⟩ := hs'
  have h4 : ∀ b ∈ cur.drop p, x < b := fun b hb => by
    have := hhi b hb
    have : x ≠ b := fun e => h (e ▸ List.mem_of_mem_drop hb)
    omega
  rw [List.append_assoc, List.pairwise_append]
  refine ⟨h1, List.pairwise_cons.2 ⟨h4, h2⟩, fun a ha b hb => ?_⟩
  rcases List.mem_cons.1 hb with rfl | hb
  · exact hlo a ha
  · exact h3 a ha b hb
theorem sorted_eq {a b : List Int} (ha : a.Pairwise (· < ·)) (hb : b.Pairwise (· < ·)) (h : ∀ x, x ∈ a ↔ x ∈ b) : a = b := by
  induction a generalizing b with
  | nil => cases b with
    | nil => rfl
    | cons y t => exact absurd ((h y).2 (List.mem_cons_self ..)) (by simp)
  | cons x s ih => cases b with
    | nil => exact absurd ((h x).1 (List.mem_cons_self ..)) (by simp)
    | cons y t =>
      have ha' := List.pairwise_cons.1 ha
      have hb' := List.pairwise_cons.1 hb
      have e : x = y := by
        rcases List.mem_cons.1 ((h x).1 (List.mem_cons_self ..)) with e | e
        · exact e
        · rcases List.mem_cons.1 ((h y).2 (List.mem_cons_self ..)) with e' | e'
          · exact e'.symm
          · have := hb'.1 x e; have := ha'.1 y e'; omega
      subst e
      congr 1
      refine ih ha'.2 hb'.2 fun z => ?_
      constructor
      · intro hz
        rcases List.mem_cons.1 ((h z).1 (List.mem_cons_of_mem _ hz)) with e | e
        · have := ha'.1 z hz; omega
        · exact e
      · intro hz
        rcases List.mem_cons.1 ((h z).2 (List.mem_cons_of_mem _ hz)) with e | e
        · have := hb'.1 z hz; omega
        · exact e
end Go.Q
namespace Go.Q
theorem fold_max_mem (l : List Int) : ∀ a : Int, l.foldl max a = a ∨ l.foldl max a ∈ l := by
  induction l with
  | nil => intro a; exact .inl rfl
  | cons x t ih =>
    intro a
    rw [List.foldl_cons]
    rcases ih (max a x) with h | h
    · rw [h]
      rcases Int.le_total a x with g | g
      · right; rw [Int.max_eq_right g]; exact List.mem_cons_self ..
      · left; exact Int.max_eq_left g
    · exact .inr (List.mem_cons_of_mem _ h)
theorem fold_min_mem (l : List Int) : ∀ a : Int, l.foldl min a = a ∨ l.foldl min a ∈ l := by
  induction l with
  | nil => intro a; exact .inl rfl
  | cons x t ih =>
    intro a
    rw [List.foldl_cons]
    rcases ih (min a x) with h | h
    · rw [h]
      rcases Int.le_total a x with g | g
      · left; exact Int.min_eq_left g
      · right; rw [Int.min_eq_right g]; exact List.mem_cons_self ..
    · exact .inr (List.mem_cons_of_mem _ h)
theorem fold_max_le (l : List Int) : ∀ a : Int, a ≤ l.foldl max a ∧ ∀ x ∈ l, x ≤ l.foldl max a := by
  induction l with
  | nil => intro a; exact ⟨Int.le_refl _, fun x hx => by cases hx⟩
  | cons y t ih =>
    intro a
    rw [List.foldl_cons]
    have := ih (max a y)
    refine ⟨by omega, fun x hx => ?_⟩
    rcases List.mem_cons.1 hx with e | e
    · subst e; omega
    · exact this.2 x e
theorem fold_min_le (l : List Int) : ∀ a : Int, l.foldl min a ≤ a ∧ ∀ x ∈ l, l.foldl min a ≤ x := by
  induction l with
  | nil => intro a; exact ⟨Int.le_refl _, fun x hx => by cases hx⟩
  | cons y t ih =>
    intro a
    rw [List.foldl_cons]
    have := ih (min a y)
    refine ⟨by omega, fun x hx => ?_⟩
    rcases List.mem_cons.1 hx with e | e
    · subst e; omega
    · exact this.2 x e
theorem seen_step {l : List Int} {k : Nat} {h a x : Int} {b b' : Bool} (H : h = a ∨ h ∈ l.take k → b = true) (hx : l[k]? = some x) (g : b = true ∨ h = x → b' = true) : h = a ∨ h ∈ l.take (k + 1) → b' = true := by
  rw [take_succ_of hx, List.mem_append, List.mem_singleton]
  rintro (h1 | h1 | h1)
  · exact g (.inl (H (.inl h1)))
  · exact g (.inl (H (.inr h1)))
  · exact g (.inr h1)
end Go.Q
namespace Go.Q
theorem sum_skip {l : List Int} {k : Nat} {s x : Int} (h : sumS 0 l = sumS s (l.drop k)) (hx : l[k]? = some x) (h0 : ¬ 0 < x) (hs : s ≤ 9223372036854775807) : sumS 0 l = sumS s (l.drop (k + 1)) := by
  rw [h, drop_of hx, sumS, if_neg (by omega), Int.max_eq_right (by omega), Int.add_zero]
theorem sum_add {l : List Int} {k : Nat} {s x : Int} (h : sumS 0 l = sumS s (l.drop k)) (hx : l[k]? = some x) (h0 : 0 < x) (hs : ¬ 9223372036854775807 - s < x) : sumS 0 l = sumS (s + x) (l.drop (k + 1)) := by
  rw [h, drop_of hx, sumS, if_neg (by omega), Int.max_eq_left (by omega)]
theorem sum_over {l : List Int} {k : Nat} {s x : Int} (h : sumS 0 l = sumS s (l.drop k)) (hx : l[k]? = some x) (hs : 9223372036854775807 - s < x) : sumS 0 l = 9223372036854775807 := by
  rw [h, drop_of hx, sumS, if_pos (by omega)]
theorem sum_end {l : List Int} {k : Nat} {s : Int} (h : sumS 0 l = sumS s (l.drop k)) (hk : l.length ≤ k) : sumS 0 l = s := by
  rw [h, List.drop_of_length_le hk]; rfl
end Go.Q
namespace Go.Q
theorem o_not2 {P : Program} {ρ : Operand → Value} {w : World} {K : Value → World → Prop} {dst : Option Tmp} {T : TypeId} {pos : String} {after : Array Edge} {g : Option (Nat × Bool)} {t : TypeId} {x : Operand} {b b' : Bool} (hx : ρ x = .bool b) (hb : (!b) = b') (h : K (.bool b') w) :
    OK P ⟨dst, .unOp .not t x, T, pos, after, g⟩ ρ w K := by subst hb; exact o_not hx h
end Go.Q
namespace Go.Q
def OwnAt (e : TypeId) (v : Value) (n : Nat) (cs : List Value) (hs : List Hp) (b : Nat) : Prop :=
  ∃ cap cur, v = .slice (some ⟨b, 0, none⟩) n cap ∧ hs = [Hp.one b (.cells cur e (0, 0))] ∧ n ≤ cap ∧ cap ≤ maxLen ∧ cur.size = cap * 1 ∧ cur.toList.take (n * 1) = cs ∧ cs.length = n * 1
section ops
variable {P : Program} {ρ : Operand → Value} {E w : World} {ss : List (List Hp)} {K : Value → World → Prop} {dst : Option Tmp} {T : TypeId} {pos : String} {after : Array Edge} {g : Option (Nat × Bool)}
theorem o_ownAddr {x y : Operand} {t e : TypeId} {hs : List Hp} {n by_ : Nat} {v z : Value} {cs : List Value} {k : IntKind} {i : Int} (ht : P.underlying t = some (.slice e)) (hi : TI P e z 1 by_)
    (hx : ρ x = v) (ho : Own e 1 v n cs hs) (hy : ρ y = .int k i) (h0 : 0 ≤ i) (h1 : i < n) (hK : ∀ b, OwnAt e v n cs hs b → K (.pointer (some ⟨b, i.toNat, none⟩)) w) :
    OK P ⟨dst, .indexAddr t x y, T, pos, after, g⟩ ρ w K := by
  obtain ⟨hl, ⟨rfl, h2, rfl⟩ | ⟨b, cap, cur, rfl, rfl, hnc, hcm, hsz, hc⟩⟩ := ho
  · omega
  · refine OK.val (run_v (v := .pointer (some ⟨b, i.toNat, none⟩)) ?_) (hK b ⟨cap, cur, rfl, rfl, hnc, hcm, hsz, hc, hl⟩)
    rw [hx, hy]
    simp [Instr.indexAt, asIntOf, run_underlying ht, h0, h1, hi.size, add_lit]
theorem o_ownStore {α : Type} {f : α → Value} {l : List α} {a : α} {x y : Operand} {t e : TypeId} {hs : List Hp} {n i b by_ : Nat} {v z : Value} (hi : TI P t z 1 by_) (hx : ρ x = .pointer (some ⟨b, i, none⟩)) (hy : ρ y = f a)
    (hv : (f a).oneCell' = true) (ho : OwnAt e v n (l.map f) hs b) (hlt : i < n) (H : Has E w (hs :: ss)) (hK : ∀ hs' w', Own e 1 v (l.set i a).length ((l.set i a).map f) hs' → Has E w' (hs' :: ss) → K undef w') :
    OK P ⟨dst, .store t x y, T, pos, after, g⟩ ρ w K := by
  obtain ⟨cap, cur, rfl, rfl, hnc, hcm, hsz, hc, hl⟩ := ho
  have hln : (l.set i a).length = n := by simpa using hl
  refine o_store1 (c' := cur.setIfInBounds i (f a)) hi hx hy hv (by omega) rfl H fun w' H' => hK _ w' ?_ H'
  rw [hln]
  refine ⟨by simpa using hl, .inr ⟨b, cap, _, rfl, rfl, hnc, hcm, by simpa using hsz, ?_⟩⟩
  rw [Array.toList_setIfInBounds, List.take_set, hc, List.map_set]
end ops
end Go.Q
namespace Go.Q
abbrev Bs := List UInt8
theorem flat_len {α : Type} {f : α → List Value} {sz : Nat} (hf : ∀ a, (f a).length = sz) : ∀ l : List α, (l.flatMap f).length = l.length * sz
  | [] => by simp
  | a :: l => by rw [List.flatMap_cons, List.length_append, hf, flat_len hf l, List.length_cons, Nat.succ_mul, Nat.add_comm]
theorem flat_part {α : Type} {f : α → List Value} {sz : Nat} (hf : ∀ a, (f a).length = sz) : ∀ (l : List α) (i : Nat) (x : α), l[i]? = some x → ((l.flatMap f).drop (i * sz)).take sz = f x
  | [], i, x, h => by simp at h
  | a :: l, 0, x, h => by
    have e : a = x := by simpa using h
    subst e
    rw [List.flatMap_cons, Nat.zero_mul, List.drop_zero, List.take_append_of_le_length (by rw [hf]; exact Nat.le_refl _), List.take_of_length_le (by rw [hf]; exact Nat.le_refl _)]
  | a :: l, i + 1, x, h => by
    rw [List.flatMap_cons, Nat.succ_mul, List.drop_append, List.drop_of_length_le (by rw [hf]; omega), List.nil_append, hf, Nat.add_sub_cancel]
    exact flat_part hf l i x (by simpa using h)
theorem Own.appF {α : Type} {f : α → List Value} {e : TypeId} {sz n m : Nat} {v : Value} {a b : List α} {hs : List Hp} (H : Own e sz v (n + m) (a.flatMap f ++ b.flatMap f) hs) (hn : n = a.length := by rfl) (hm : m = b.length := by rfl) :
    Own e sz v (a ++ b).length ((a ++ b).flatMap f) hs := by
  subst hn hm
  rw [List.length_append, List.flatMap_append]; exact H
theorem sl_litF {α : Type} {f : α → List Value} {sz : Nat} {l : List α} {b : Nat} {c : Array Value} {T : TypeId} {g : Nat × Nat} {n : Nat} (hf : ∀ a, (f a).length = sz) (hc : c.toList = l.flatMap f) (hn : l.length = n) (hm : n ≤ 9223372036854775807) :
    Sl [Hp.one b (.cells c T g)] sz (.slice (some ⟨b, 0, none⟩) n n) l.length (l.flatMap f) := by
  subst hn
  exact ⟨_, _, rfl, Nat.le_refl _, hm, flat_len hf l, fun _ => ⟨b, 0, rfl, CellsAt.one (by rw [hc, List.drop_zero, List.take_length])⟩⟩
theorem one_flat {α : Type} {f : α → List Value} (h1 : ∀ a, ∀ u ∈ f a, u.oneCell' = true) (l : List α) : ∀ u ∈ l.flatMap f, u.oneCell' = true := fun u hu => by
  obtain ⟨a, _, h⟩ := List.mem_flatMap.1 hu
  exact h1 a u h
theorem CellsAt.field {L : List Hp} {b off k : Nat} {cs ds : List Value} (H : CellsAt L b off cs) (h : (cs.drop k).take ds.length = ds) : CellsAt L b (off + k) ds :=
  H.sub fun j v hv => by
    rw [← h, List.getElem?_take] at hv
    split at hv
    · rw [List.getElem?_drop] at hv; exact hv
    · cases hv
section ops
variable {P : Program} {ρ : Operand → Value} {E w : World} {ss : List (List Hp)} {K : Value → World → Prop} {dst : Option Tmp} {T : TypeId} {pos : String} {after : Array Edge} {g : Option (Nat × Bool)}
theorem o_indexF {α : Type} {f : α → List Value} {l : List α} {a : α} {x y : Operand} {t e : TypeId} {L : List Hp} {sz n by_ : Nat} {v z : Value} {k : IntKind} {i : Int} (hf : ∀ a, (f a).length = sz) (ht : P.underlying t = some (.slice e)) (hi : TI P e z sz by_)
    (hx : ρ x = v) (hs : Sl L sz v n (l.flatMap f)) (hn : n = l.length) (hy : ρ y = .int k i) (h0 : 0 ≤ i) (ha : l[i.toNat]? = some a) (hK : ∀ b off, CellsAt L b off (f a) → K (.pointer (some ⟨b, off, none⟩)) w) :
    OK P ⟨dst, .indexAddr t x y, T, pos, after, g⟩ ρ w K := by
  have hlt := (List.getElem?_eq_some_iff.1 ha).1
  refine o_indexAddr ht hi hx hs hy h0 (by omega) fun b off hc => hK b off ?_
  rw [flat_part hf l i.toNat a ha] at hc
  exact hc
end ops
/-- heaplets taken out one by one -/
def pickL : List Nat → List (List Hp) → List (List Hp)
  | [], _ => []
  | c :: cs, ss => match ss[c]? with | some s => s :: pickL cs (ss.eraseIdx c) | none => []
theorem pickL_sub : ∀ (cs : List Nat) (ss : List (List Hp)), ∃ rest, ss.Perm (pickL cs ss ++ rest)
  | [], ss => ⟨ss, List.Perm.refl _⟩
  | c :: cs, ss => by
    unfold pickL
    split
    · rename_i s hs
      obtain ⟨rest, h⟩ := pickL_sub cs (ss.eraseIdx c)
      have hf := perm_front c ss
      unfold Q.front at hf
      rw [hs] at hf
      exact ⟨rest, hf.symm.trans (by rw [List.cons_append]; exact h.cons s)⟩
    · exact ⟨ss, List.Perm.refl _⟩
theorem Has.pick {E w : World} {ss ts : List (List Hp)} (H : Has E w ss) (cs : List Nat) (h : pickL cs ss = ts) : Has E w ts := by
  subst h
  obtain ⟨rest, h⟩ := pickL_sub cs ss
  exact (H.perm h.symm).sub (List.sublist_append_left _ _)
/-- one cell of the front block, written -/
theorem Has.set1 {E w : World} {ss : List (List Hp)} {b off : Nat} {c : Array Value} {U : TypeId} {v : Value} (hlt : off < c.size) (H : Has E w ([Hp.one b (.cells c U (0, 0))] :: ss)) :
    Has E (w.setCell ⟨b, off, none⟩ v) ([Hp.one b (.cells (c.setIfInBounds off v) U (0, 0))] :: ss) := by
  have hwb : w.heap[b]? = some (.cells c U (0, 0)) := H.at (h := Hp.one b (.cells c U (0, 0))) (by simp) (Hp.one_at _ _)
  refine Has0.write (an := [Hp.one b (.cells c U (0, 0))]) (an' := [Hp.one b (.cells (c.setIfInBounds off v) U (0, 0))]) (hs := ss.flatten) H rfl rfl rfl (by simp) ?_ ?_ ?_
  · intro k hk
    have hk := hk _ (List.mem_singleton.2 rfl)
    refine .inl fun h hh => ?_
    rw [List.mem_singleton.1 hh]
    unfold Hp.one at hk ⊢
    split at hk
    · cases hk
    · rw [if_neg (by assumption)]
  · intro h hh k o hk
    rw [List.mem_singleton.1 hh] at hk
    obtain ⟨rfl, rfl⟩ := Hp.one_some hk
    simp only [World.setCell, Array.getElem?_modify]
    simp [hwb]
  · intro k _ hk
    have hk := hk _ (List.mem_singleton.2 rfl)
    have : k ≠ b := by rintro rfl; rw [Hp.one_at] at hk; cases hk
    simp only [World.setCell, Array.getElem?_modify]
    rw [if_neg (by omega)]
def setFrom (c : Array Value) (k : Nat) : List Value → Array Value
  | [] => c
  | v :: vs => setFrom (c.setIfInBounds k v) (k + 1) vs
theorem run_stores {P : Program} {E : World} {ss : List (List Hp)} {b off : Nat} {U : TypeId} : ∀ (vs : List Value) (i : Nat) (c : Array Value) (w : World), Has E w ([Hp.one b (.cells c U (0, 0))] :: ss) → off + i + vs.length ≤ c.size → (∀ v ∈ vs, v.oneCell' = true) →
    ∃ w', (storeCells ⟨b, off, none⟩ vs i).run P w = .ok () w' ∧ Has E w' ([Hp.one b (.cells (setFrom c (off + i) vs) U (0, 0))] :: ss)
  | [], i, c, w, H, _, _ => ⟨w, rfl, H⟩
  | v :: vs, i, c, w, H, hl, h1 => by
    have hlt : off + i < c.size := by simp only [List.length_cons] at hl; omega
    have hwb : w.heap[b]? = some (.cells c U (0, 0)) := H.at (h := Hp.one b (.cells c U (0, 0))) (by simp) (Hp.one_at _ _)
    have hcell : w.cell? ⟨b, off + i, none⟩ = some c[off + i] := by rw [cell_of_row w b (off + i) c U (0, 0) hwb]; simp [hlt]
    have hfz : w.frozen? ⟨b, off + i, none⟩ = false := by simp [World.frozen?, hwb]
    obtain ⟨w', hr, H'⟩ := run_stores (b := b) (off := off) (U := U) vs (i + 1) (c.setIfInBounds (off + i) v) (w.setCell ⟨b, off + i, none⟩ v) (H.set1 hlt) (by simp only [Array.size_setIfInBounds, List.length_cons] at hl ⊢; omega) (fun u hu => h1 u (List.mem_cons_of_mem _ hu))
    refine ⟨w', ?_, H'⟩
    have h1v := h1 v (List.mem_cons_self ..)
    simp only [storeCells, Sem.run_bind, add_lit, run_store P w ⟨b, off + i, none⟩ v .plain h1v, hcell, hfz]
    simpa using hr
section ops
variable {P : Program} {ρ : Operand → Value} {E w : World} {ss : List (List Hp)} {K : Value → World → Prop} {dst : Option Tmp} {T : TypeId} {pos : String} {after : Array Edge} {g : Option (Nat × Bool)}
theorem o_storeN {x y : Operand} {t : TypeId} {b off sz : Nat} {c c' : Array Value} {U : TypeId} {v z : Value} {vs : List Value} {by_ : Nat} (hi : TI P t z sz by_) (hx : ρ x = .pointer (some ⟨b, off, none⟩)) (hy : ρ y = v)
    (hv : v.cells = vs.toArray) (hn : vs.length = sz) (h1 : ∀ u ∈ vs, u.oneCell' = true) (hlt : off + sz ≤ c.size) (hc : setFrom c off vs = c') (H : Has E w ([Hp.one b (.cells c U (0, 0))] :: ss))
    (hK : ∀ w', Has E w' ([Hp.one b (.cells c' U (0, 0))] :: ss) → K undef w') : OK P ⟨dst, .store t x y, T, pos, after, g⟩ ρ w K := by
  obtain ⟨w', hr, H'⟩ := run_stores (P := P) (b := b) (off := off) (U := U) vs 0 c w H (by omega) h1
  refine OK.skip (w' := w') (run_u ?_) (hK _ (by rw [← hc]; exact H'))
  rw [hx, hy]
  simp only [Instr.storeAt, Instr.sureAddr, Sem.run_bind, Sem.run_pure, Result.andThen_ok, storeVar, hi.size, hv]
  simpa [hn] using hr
end ops
theorem wrap_u64 (x : Int) : 0 ≤ IntKind.wrap .u64 x ∧ IntKind.wrap .u64 x < 18446744073709551616 := by
  simp only [IntKind.wrap, IntKind.bits, IntKind.signed]
  simp
  constructor
  · exact Int.emod_nonneg _ (by decide)
  · exact Int.emod_lt_of_pos _ (by decide)
/-- A time of a key. -/
def tmC (p : Int × Int) : List Value := [iV p.1, iV p.2]
/-- An act of layer 9. -/
structure ActL where
  kind : Int
  stream : Int
  page : Int
  txn : Int
  n : Int
  more : Value
  ml : List Int
def actC (a : ActL) : List Value := [iV a.kind, iV a.stream, iV a.page, iV a.txn, iV a.n, a.more]
theorem actC_len (a : ActL) : (actC a).length = 6 := rfl
theorem tmC_len (a : Int × Int) : (tmC a).length = 2 := rfl
/-- An act whose row of numbers reads. -/
def ActOk (R : List Hp) (a : ActL) : Prop := (∀ x ∈ [a.kind, a.stream, a.page, a.txn, a.n], (-9223372036854775808 : Int) ≤ x ∧ x ≤ 9223372036854775807) ∧ Ints R a.more a.ml ∧ ∀ x ∈ a.ml, (-9223372036854775808 : Int) ≤ x ∧ x ≤ 9223372036854775807
theorem one_tm (l : List (Int × Int)) : ∀ u ∈ l.flatMap tmC, u.oneCell' = true := one_flat (fun p u hu => by
  rcases List.mem_cons.1 hu with e | hu
  · rw [e]; rfl
  · rw [List.mem_singleton.1 hu]; rfl) l
end Go.Q
