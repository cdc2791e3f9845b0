/-
  Layer 5: a power, sectors, and what is asked of them.
-/
import Derived.Test.YtcffibbdbalmjaaQKV
import Derived.Test.YtcffibbdbalmjaaQX
import Derived.Test.YtcffibbdbalmjaaQWay
set_option linter.unusedVariables false
set_option linter.unusedSimpArgs false
namespace Go.Q
abbrev Bs := List UInt8
structure Pw where
  off : Bool
  armed : Bool
  left : Int
  uses : Int
def useS (p : Pw) : Pw := if p.off = true then p else ⟨p.armed && decide (p.left = 0), p.armed, p.left - 1, p.uses + 1⟩
def useB (p : Pw) : Bool := !p.off && !(useS p).off
def backS (p : Pw) : Pw := ⟨false, false, p.left, p.uses⟩
def armS (p : Pw) (n : Int) : Pw := ⟨p.off, true, max n 0, p.uses⟩
def PwOk (p : Pw) : Prop := 0 ≤ p.uses ∧ p.uses ≤ 4000000000000000000 ∧ -4000000000000000000 ≤ p.left ∧ p.left ≤ 9223372036854775807
def blankS : Bs := List.replicate 64 0
def fillS (s : Bs) : Bs := s ++ blankS.drop s.length
theorem blank_len : blankS.length = 64 := rfl
theorem fill_len {s : Bs} (h : s.length ≤ 64) : (fillS s).length = 64 := by unfold fillS; rw [List.length_append, List.length_drop, blank_len]; omega
def settleS (lo : List (Int × Bs)) (la : List Bs) (keep : List Int) : List Bs := keep.foldl (fun acc n => match getB lo n with | some s => acc.set n.toNat s | none => acc) la
theorem settle_len (lo : List (Int × Bs)) : ∀ (keep : List Int) (la : List Bs), (settleS lo la keep).length = la.length
  | [], _ => rfl
  | n :: keep, la => by
    show (settleS lo _ keep).length = _
    rw [settle_len lo keep]
    show (match getB lo n with | some s => la.set n.toNat s | none => la).length = _
    split <;> simp
theorem settle_step {lo : List (Int × Bs)} {la : List Bs} {keep : List Int} {k : Nat} {n : Int} (h : keep[k]? = some n) : settleS lo la (keep.take (k + 1)) = match getB lo n with | some s => (settleS lo la (keep.take k)).set n.toNat s | none => settleS lo la (keep.take k) := by
  unfold settleS; rw [take_succ_of h, List.foldl_append]; rfl
theorem settle_yes {lo : List (Int × Bs)} {la : List Bs} {keep : List Int} {k : Nat} {n : Int} (h : keep[k]? = some n) (g : (getB lo n).isSome = true) : settleS lo la (keep.take (k + 1)) = (settleS lo la (keep.take k)).set n.toNat ((getB lo n).getD []) := by
  rw [settle_step h]
  cases e : getB lo n with
  | none => rw [e] at g; cases g
  | some s => rfl
theorem settle_no {lo : List (Int × Bs)} {la : List Bs} {keep : List Int} {k : Nat} {n : Int} (h : keep[k]? = some n) (g : (getB lo n).isSome = false) : settleS lo la (keep.take (k + 1)) = settleS lo la (keep.take k) := by
  rw [settle_step h]
  cases e : getB lo n with
  | none => rfl
  | some s => rw [e] at g; cases g
def inS (n : Int) (k : Nat) : Prop := 0 ≤ n ∧ n < (k : Int)
instance (n : Int) (k : Nat) : Decidable (inS n k) := inferInstanceAs (Decidable (_ ∧ _))
/-- what is loose has a place, and a sector's bytes -/
def LoOk (lo : List (Int × Bs)) (k : Nat) : Prop := ∀ p ∈ lo, inS p.1 k ∧ p.2.length = 64
theorem LoOk.get {lo : List (Int × Bs)} {k : Nat} (h : LoOk lo k) {n : Int} (g : (getB lo n).isSome = true) : inS n k := by
  obtain ⟨p, hp, rfl⟩ := List.mem_map.1 (getB_mem.1 g)
  exact (h p hp).1
def keysS (lo : List (Int × Bs)) : List Int := (lo.map (·.1)).mergeSort (fun x y => decide (x ≤ y))
def readS (p : Pw) (la : List Bs) (lo : List (Int × Bs)) (n : Int) : Bs := if p.off = true then [] else if inS n la.length then (if (getB lo n).isSome = true then (getB lo n).getD [] else (la[n.toNat]?).getD []) else []
def readE (p : Pw) (la : List Bs) (n : Int) : Int := if p.off = true then 6 else if inS n la.length then 0 else 1
def writeE (p : Pw) (k : Nat) (n : Int) (s : Bs) : Int := if useB p = true then (if s.length ≤ 64 ∧ inS n k then 0 else 1) else 6
def writeS (p : Pw) (k : Nat) (lo : List (Int × Bs)) (n : Int) (s : Bs) : List (Int × Bs) := if useB p = true ∧ s.length ≤ 64 ∧ inS n k then putB lo n (fillS s) else lo
def syncE (p : Pw) : Int := if useB p = true then 0 else 6
def syncA (p : Pw) (la : List Bs) (lo : List (Int × Bs)) : List Bs := if useB p = true then settleS lo la (keysS lo) else la
def syncO (p : Pw) (lo : List (Int × Bs)) : List (Int × Bs) := if useB p = true then [] else lo
def lastsS (la : List Bs) (n : Int) : Bs := if inS n la.length then (la[n.toNat]?).getD [] else []
def putE (k : Nat) (n : Int) (s : Bs) : Int := if s.length ≤ 64 ∧ inS n k then 0 else 1
def putA (la : List Bs) (n : Int) (s : Bs) : List Bs := if s.length ≤ 64 ∧ inS n la.length then la.set n.toNat (fillS s) else la
def putO (k : Nat) (lo : List (Int × Bs)) (n : Int) (s : Bs) : List (Int × Bs) := if s.length ≤ 64 ∧ inS n k then delB lo n else lo
/-- two heaplets and more, told as one -/
theorem Has.open3 {E w : World} {a b c : List Hp} {ss : List (List Hp)} (H : Has E w ((a ++ (b ++ c)) :: ss)) : Has E w (a :: b :: c :: ss) := by
  unfold Has at *; simpa [List.append_assoc] using H
theorem Has.close3 {E w : World} {a b c : List Hp} {ss : List (List Hp)} (H : Has E w (a :: b :: c :: ss)) : Has E w ((a ++ (b ++ c)) :: ss) := by
  unfold Has at *; simpa [List.append_assoc] using H
theorem Has.all5 {E w : World} {a0 a1 a2 a3 a4 : List Hp} {ss : List (List Hp)} (H : Has E w (a0 :: a1 :: a2 :: a3 :: a4 :: ss)) : Has E w [a0, a1, a2, a3, a4, ss.flatten] := by unfold Has at *; simpa using H
theorem Has.of_all5 {E w : World} {a0 a1 a2 a3 a4 : List Hp} {ss : List (List Hp)} (H : Has E w [a0, a1, a2, a3, a4, ss.flatten]) : Has E w (a0 :: a1 :: a2 :: a3 :: a4 :: ss) := by unfold Has at *; simpa using H
theorem Has.all6 {E w : World} {a0 a1 a2 a3 a4 a5 : List Hp} {ss : List (List Hp)} (H : Has E w (a0 :: a1 :: a2 :: a3 :: a4 :: a5 :: ss)) : Has E w [a0, a1, a2, a3, a4, a5, ss.flatten] := by unfold Has at *; simpa using H
theorem Has.of_all6 {E w : World} {a0 a1 a2 a3 a4 a5 : List Hp} {ss : List (List Hp)} (H : Has E w [a0, a1, a2, a3, a4, a5, ss.flatten]) : Has E w (a0 :: a1 :: a2 :: a3 :: a4 :: a5 :: ss) := by unfold Has at *; simpa using H
theorem Has.all7 {E w : World} {a0 a1 a2 a3 a4 a5 a6 : List Hp} {ss : List (List Hp)} (H : Has E w (a0 :: a1 :: a2 :: a3 :: a4 :: a5 :: a6 :: ss)) : Has E w [a0, a1, a2, a3, a4, a5, a6, ss.flatten] := by unfold Has at *; simpa using H
theorem Has.of_all7 {E w : World} {a0 a1 a2 a3 a4 a5 a6 : List Hp} {ss : List (List Hp)} (H : Has E w [a0, a1, a2, a3, a4, a5, a6, ss.flatten]) : Has E w (a0 :: a1 :: a2 :: a3 :: a4 :: a5 :: a6 :: ss) := by unfold Has at *; simpa using H
theorem Has.all8 {E w : World} {a0 a1 a2 a3 a4 a5 a6 a7 : List Hp} {ss : List (List Hp)} (H : Has E w (a0 :: a1 :: a2 :: a3 :: a4 :: a5 :: a6 :: a7 :: ss)) : Has E w [a0, a1, a2, a3, a4, a5, a6, a7, ss.flatten] := by unfold Has at *; simpa using H
theorem Has.of_all8 {E w : World} {a0 a1 a2 a3 a4 a5 a6 a7 : List Hp} {ss : List (List Hp)} (H : Has E w [a0, a1, a2, a3, a4, a5, a6, a7, ss.flatten]) : Has E w (a0 :: a1 :: a2 :: a3 :: a4 :: a5 :: a6 :: a7 :: ss) := by unfold Has at *; simpa using H
theorem Has.all9 {E w : World} {a0 a1 a2 a3 a4 a5 a6 a7 a8 : List Hp} {ss : List (List Hp)} (H : Has E w (a0 :: a1 :: a2 :: a3 :: a4 :: a5 :: a6 :: a7 :: a8 :: ss)) : Has E w [a0, a1, a2, a3, a4, a5, a6, a7, a8, ss.flatten] := by unfold Has at *; simpa using H
theorem Has.of_all9 {E w : World} {a0 a1 a2 a3 a4 a5 a6 a7 a8 : List Hp} {ss : List (List Hp)} (H : Has E w [a0, a1, a2, a3, a4, a5, a6, a7, a8, ss.flatten]) : Has E w (a0 :: a1 :: a2 :: a3 :: a4 :: a5 :: a6 :: a7 :: a8 :: ss) := by unfold Has at *; simpa using H
theorem Has.all10 {E w : World} {a0 a1 a2 a3 a4 a5 a6 a7 a8 a9 : List Hp} {ss : List (List Hp)} (H : Has E w (a0 :: a1 :: a2 :: a3 :: a4 :: a5 :: a6 :: a7 :: a8 :: a9 :: ss)) : Has E w [a0, a1, a2, a3, a4, a5, a6, a7, a8, a9, ss.flatten] := by unfold Has at *; simpa using H
theorem Has.of_all10 {E w : World} {a0 a1 a2 a3 a4 a5 a6 a7 a8 a9 : List Hp} {ss : List (List Hp)} (H : Has E w [a0, a1, a2, a3, a4, a5, a6, a7, a8, a9, ss.flatten]) : Has E w (a0 :: a1 :: a2 :: a3 :: a4 :: a5 :: a6 :: a7 :: a8 :: a9 :: ss) := by unfold Has at *; simpa using H
theorem Has.all11 {E w : World} {a0 a1 a2 a3 a4 a5 a6 a7 a8 a9 a10 : List Hp} {ss : List (List Hp)} (H : Has E w (a0 :: a1 :: a2 :: a3 :: a4 :: a5 :: a6 :: a7 :: a8 :: a9 :: a10 :: ss)) : Has E w [a0, a1, a2, a3, a4, a5, a6, a7, a8, a9, a10, ss.flatten] := by unfold Has at *; simpa using H
theorem Has.of_all11 {E w : World} {a0 a1 a2 a3 a4 a5 a6 a7 a8 a9 a10 : List Hp} {ss : List (List Hp)} (H : Has E w [a0, a1, a2, a3, a4, a5, a6, a7, a8, a9, a10, ss.flatten]) : Has E w (a0 :: a1 :: a2 :: a3 :: a4 :: a5 :: a6 :: a7 :: a8 :: a9 :: a10 :: ss) := by unfold Has at *; simpa using H
theorem Has.all12 {E w : World} {a0 a1 a2 a3 a4 a5 a6 a7 a8 a9 a10 a11 : List Hp} {ss : List (List Hp)} (H : Has E w (a0 :: a1 :: a2 :: a3 :: a4 :: a5 :: a6 :: a7 :: a8 :: a9 :: a10 :: a11 :: ss)) : Has E w [a0, a1, a2, a3, a4, a5, a6, a7, a8, a9, a10, a11, ss.flatten] := by unfold Has at *; simpa using H
theorem Has.of_all12 {E w : World} {a0 a1 a2 a3 a4 a5 a6 a7 a8 a9 a10 a11 : List Hp} {ss : List (List Hp)} (H : Has E w [a0, a1, a2, a3, a4, a5, a6, a7, a8, a9, a10, a11, ss.flatten]) : Has E w (a0 :: a1 :: a2 :: a3 :: a4 :: a5 :: a6 :: a7 :: a8 :: a9 :: a10 :: a11 :: ss) := by unfold Has at *; simpa using H
end Go.Q
