/-
  Parts of a walk: what functions of the program compute, each told by a theorem (QTw, QTw2, QTw3, QTw4, QFrame3, QFrame4, QZ, QY, QYS, QDevA, QAreaA, QAreaP, QSlh, QCut, QOwnL, QStm, QStmD, QStmK, QStmB, QStmC, QStmE, QStmF, QStmG, QRing, QStmA, QRun, QCutW, QBld, QsBase, QsSh1, Qsd1, Qsd2, QF2, QF3, QF5).
-/
import Derived.Test.YtmfppdpfljpphaaGreatDoorB1
import Derived.Below
import Derived.ChangeArms
import Derived.WideShapes
import Derived.DataElems
import Derived.SizedLaws
import Derived.Lib.AppendStr
import Derived.Lib.UnsafeStr
import Derived.Lib.Builder
import Derived.Test.YtmfppdpfljpphaaGreatDoorProg
import Derived.Shelf.Strings.OnBuilder
import Derived.Shelf.Strings.Repeat
import Derived.Shelf.Bits.Mul64
set_option linter.unusedVariables false
set_option linter.unusedSimpArgs false
set_option maxHeartbeats 4000000
set_option linter.unnecessarySimpa false
namespace Go.Q
def sgt (s : Bs) (i : Nat) : Bs := (s.take ((i + 1) * 64)).drop (i * 64)
def setT (x : Int) (s : Bs) : Grp := [(x, sgt s 0), (x + 1, sgt s 1), (x + 2, sgt s 2), (x + 3, sgt s 3)]
def mrkG (l : List Int) : Grp := [(0, putS 1 l)]
def plc (k : Int) : Int := 5 + k * 4
def pgB (la : List Bs) (x : Int) : Bs := sec la x ++ (sec la (x + 1) ++ (sec la (x + 2) ++ sec la (x + 3)))
def stG (no : Int) (s : Bs) : List Grp := [setT 1 s, mrkG [no + 1], setT (plc no) s, mrkG []]
def mendG (no : Int) (s : Bs) : List Grp := [setT (plc no) s, mrkG []]
def noteS (no : Int) : Bs := fillS (putS 1 [no + 1])
theorem sgt_len {s : Bs} (h : s.length = 256) {i : Nat} (hi : i < 4) : (sgt s i).length = 64 := by unfold sgt; rw [List.length_drop, List.length_take]; omega
theorem sgt_all {s : Bs} (h : s.length = 256) : sgt s 0 ++ (sgt s 1 ++ (sgt s 2 ++ sgt s 3)) = s := by
 have e : ∀ a b : Nat, a ≤ b → b ≤ 256 → (s.take b).drop a ++ s.drop b = s.drop a := fun a b h1 h2 => by
  have t := congrArg (List.drop a) (List.take_append_drop b s)
  rw [List.drop_append_of_le_length (by rw [List.length_take]; omega)] at t
  exact t
 have e0 : sgt s 3 = s.drop 192 := by unfold sgt; rw [List.take_of_length_le (by omega)]
 rw [e0]
 show (s.take 64).drop 0 ++ ((s.take 128).drop 64 ++ ((s.take 192).drop 128 ++ s.drop 192)) = s
 rw [e 128 192 (by decide) (by decide), e 64 128 (by decide) (by decide), e 0 64 (by decide) (by decide), List.drop_zero]
theorem put_nil : putS 1 ([] : List Int) = [] := by rw [putS_yes (by decide) (by decide) (by simp)]; rfl
theorem put_len {no : Int} (h : 0 ≤ no ∧ no < 64) : (putS 1 [no + 1]).length = 1 := by rw [put1 (by omega), zA]
theorem gok_set {x : Int} {s : Bs} {k : Nat} (hs : s.length = 256) (h0 : 0 ≤ x) (hk : x + 4 ≤ k) : GOk (setT x s) k := by
 intro q hq
 simp only [setT, List.mem_cons, List.not_mem_nil, or_false] at hq
 rcases hq with rfl | rfl | rfl | rfl
 · exact ⟨⟨h0, by show x < _; omega⟩, Nat.le_of_eq (sgt_len hs (by decide))⟩
 · exact ⟨⟨by show 0 ≤ x + 1; omega, by show x + 1 < _; omega⟩, Nat.le_of_eq (sgt_len hs (by decide))⟩
 · exact ⟨⟨by show 0 ≤ x + 2; omega, by show x + 2 < _; omega⟩, Nat.le_of_eq (sgt_len hs (by decide))⟩
 · exact ⟨⟨by show 0 ≤ x + 3; omega, by show x + 3 < _; omega⟩, Nat.le_of_eq (sgt_len hs (by decide))⟩
theorem gok_nil {k : Nat} (hk : 1 ≤ k) : GOk (mrkG []) k := by
 intro q hq
 rw [List.mem_singleton.1 hq]
 exact ⟨⟨by show (0 : Int) ≤ 0; decide, by show (0 : Int) < _; omega⟩, by show (putS 1 []).length ≤ 64; rw [put_nil]; decide⟩
theorem gok_mrk {no : Int} (h : 0 ≤ no ∧ no < 64) {k : Nat} (hk : 1 ≤ k) : GOk (mrkG [no + 1]) k := by
 intro q hq
 rw [List.mem_singleton.1 hq]
 exact ⟨⟨by show (0 : Int) ≤ 0; decide, by show (0 : Int) < _; omega⟩, by show (putS 1 [no + 1]).length ≤ 64; rw [put_len h]; decide⟩
theorem sec_appl {la : List Bs} {x : Int} {s : Bs} (hs : s.length = 256) (h0 : 0 ≤ x) (hk : x + 4 ≤ la.length) {m : Int} (hm : 0 ≤ m) :
  sec (appl (setT x s) la) m = if m = x then sgt s 0 else if m = x + 1 then sgt s 1 else if m = x + 2 then sgt s 2 else if m = x + 3 then sgt s 3 else sec la m := by
 have f : ∀ i, i < 4 → fillS (sgt s i) = sgt s i := fun i hi => fill_full (sgt_len hs hi)
 have e : appl (setT x s) la = (((la.set x.toNat (sgt s 0)).set (x + 1).toNat (sgt s 1)).set (x + 2).toNat (sgt s 2)).set (x + 3).toNat (sgt s 3) := by
  show (((la.set x.toNat (fillS (sgt s 0))).set (x + 1).toNat (fillS (sgt s 1))).set (x + 2).toNat (fillS (sgt s 2))).set (x + 3).toNat (fillS (sgt s 3)) = _
  rw [f 0 (by decide), f 1 (by decide), f 2 (by decide), f 3 (by decide)]
 rw [e, sec_set ⟨by omega, by simp only [List.length_set]; omega⟩ hm, sec_set ⟨by omega, by simp only [List.length_set]; omega⟩ hm, sec_set ⟨by omega, by simp only [List.length_set]; omega⟩ hm, sec_set ⟨by omega, by omega⟩ hm]
 by_cases h1 : m = x
 · rw [if_neg (by omega), if_neg (by omega), if_neg (by omega), if_pos h1, if_pos h1]
 ·
  by_cases h2 : m = x + 1
  · rw [if_neg (by omega), if_neg (by omega), if_pos h2, if_neg h1, if_pos h2]
  ·
   by_cases h3 : m = x + 2
   · rw [if_neg (by omega), if_pos h3, if_neg h1, if_neg h2, if_pos h3]
   ·
    by_cases h4 : m = x + 3
    · rw [if_pos h4, if_neg h1, if_neg h2, if_neg h3, if_pos h4]
    · rw [if_neg h4, if_neg h3, if_neg h2, if_neg h1, if_neg h1, if_neg h2, if_neg h3, if_neg h4]
theorem sec_out {la : List Bs} {x : Int} {s : Bs} (hs : s.length = 256) (h0 : 0 ≤ x) (hk : x + 4 ≤ la.length) {m : Int} (hm : 0 ≤ m) (ho : m < x ∨ x + 4 ≤ m) : sec (appl (setT x s) la) m = sec la m := by
 rw [sec_appl hs h0 hk hm, if_neg (by omega), if_neg (by omega), if_neg (by omega), if_neg (by omega)]
theorem pg_set {la : List Bs} {x : Int} {s : Bs} (hs : s.length = 256) (h0 : 0 ≤ x) (hk : x + 4 ≤ la.length) : pgB (appl (setT x s) la) x = s := by
 unfold pgB
 rw [sec_appl hs h0 hk h0, if_pos rfl, sec_appl hs h0 hk (by omega), if_neg (by omega), if_pos rfl, sec_appl hs h0 hk (by omega), if_neg (by omega), if_neg (by omega), if_pos rfl, sec_appl hs h0 hk (by omega), if_neg (by omega), if_neg (by omega), if_neg (by omega), if_pos rfl]
 exact sgt_all hs
theorem pg_out {la : List Bs} {x y : Int} {s : Bs} (hs : s.length = 256) (h0 : 0 ≤ x) (hk : x + 4 ≤ la.length) (hy : 0 ≤ y) (ho : y + 4 ≤ x ∨ x + 4 ≤ y) : pgB (appl (setT x s) la) y = pgB la y := by
 unfold pgB
 rw [sec_out hs h0 hk hy (by omega), sec_out hs h0 hk (by omega) (by omega), sec_out hs h0 hk (by omega) (by omega), sec_out hs h0 hk (by omega) (by omega)]
theorem pg_same {la lb : List Bs} {y : Int} (h : ∀ j : Int, y ≤ j → j < y + 4 → sec lb j = sec la j) : pgB lb y = pgB la y := by
 unfold pgB
 rw [h y (by omega) (by omega), h (y + 1) (by omega) (by omega), h (y + 2) (by omega) (by omega), h (y + 3) (by omega) (by omega)]
theorem sec_mrk {la : List Bs} {l : List Int} (hk : 1 ≤ la.length) {m : Int} (hm : 0 ≤ m) : sec (appl (mrkG l) la) m = if m = 0 then fillS (putS 1 l) else sec la m := by
 show sec (la.set (0 : Int).toNat _) m = _
 exact sec_set ⟨by decide, by omega⟩ hm
theorem pg_mrk {la : List Bs} {l : List Int} (hk : 1 ≤ la.length) {y : Int} (hy : 1 ≤ y) : pgB (appl (mrkG l) la) y = pgB la y := pg_same fun j h1 _ => by rw [sec_mrk hk (by omega), if_neg (by omega)]
theorem mix_out {la lb : List Bs} {g : Grp} (h : Mix la g lb) {m : Int} (hm : 0 ≤ m) (ho : ∀ q ∈ g, q.1 ≠ m) : sec lb m = sec la m := by
 have e : ((m.toNat : Nat) : Int) = m := by omega
 rcases h.2 m.toNat with q | ⟨s, q1, _⟩
 · rw [e] at q; exact q
 · rw [e] at q1; exact absurd rfl (ho _ q1)
theorem mix_set {la lb : List Bs} {x y : Int} {s : Bs} (h : Mix la (setT x s) lb) (hy : 0 ≤ y) (ho : y + 4 ≤ x ∨ x + 4 ≤ y) : pgB lb y = pgB la y := pg_same fun j h1 h2 => mix_out h (by omega) fun q hq => by
 simp only [setT, List.mem_cons, List.not_mem_nil, or_false] at hq
 rcases hq with rfl | rfl | rfl | rfl <;> (show _ ≠ j; omega)
theorem mix_set0 {la lb : List Bs} {x : Int} {s : Bs} (h : Mix la (setT x s) lb) (h1 : 1 ≤ x) : sec lb 0 = sec la 0 := mix_out h (by decide) fun q hq => by
 simp only [setT, List.mem_cons, List.not_mem_nil, or_false] at hq
 rcases hq with rfl | rfl | rfl | rfl <;> (show _ ≠ (0 : Int); omega)
theorem mix_mrk {la lb : List Bs} {l : List Int} (h : Mix la (mrkG l) lb) {y : Int} (hy : 1 ≤ y) : pgB lb y = pgB la y := pg_same fun j h1 h2 => mix_out h (by omega) fun q hq => by rw [List.mem_singleton.1 hq]; show (0 : Int) ≠ j; omega
theorem mix_mrk0 {la lb : List Bs} {l : List Int} (h : Mix la (mrkG l) lb) : sec lb 0 = sec la 0 ∨ sec lb 0 = fillS (putS 1 l) := by
 rcases h.2 0 with q | ⟨s, q1, q2⟩
 · exact .inl q
 ·
  refine .inr ?_
  have e := List.mem_singleton.1 q1
  rw [← (Prod.mk.inj e).2]; exact q2
structure Tw (la : List Bs) (n : Nat) (B : Nat → Bs) : Prop where
 len : 5 + 4 * n ≤ la.length
 note : sec la 0 = blankS
 pg : ∀ k, k < n → pgB la (plc k) = B k
def updB (B : Nat → Bs) (no : Nat) (s : Bs) (k : Nat) : Bs := if k = no then s else B k
def Pend (la : List Bs) (n : Nat) (B : Nat → Bs) (no : Nat) (s : Bs) : Prop :=
 5 + 4 * n ≤ la.length ∧ ((sec la 0 = blankS ∧ ((∀ k, k < n → pgB la (plc k) = B k) ∨ (∀ k, k < n → pgB la (plc k) = updB B no s k))) ∨ (sec la 0 = noteS no ∧ pgB la 1 = s ∧ ∀ k, k < n → k ≠ no → pgB la (plc k) = B k))
section store
variable {la : List Bs} {n : Nat} {B : Nat → Bs} {no : Nat} {s : Bs}
theorem st_ok (h : Tw la n B) (hs : s.length = 256) (hn : no < n) : Tw (appls (stG no s) la) n (updB B no s) := by
 have hl := h.len
 have l1 : (appl (setT 1 s) la).length = la.length := appl_len _ _
 have l2 : (appl (mrkG [(no : Int) + 1]) (appl (setT 1 s) la)).length = la.length := by rw [appl_len, l1]
 have l3 : (appl (setT (plc no) s) (appl (mrkG [(no : Int) + 1]) (appl (setT 1 s) la))).length = la.length := by rw [appl_len, l2]
 have e : appls (stG no s) la = appl (mrkG []) (appl (setT (plc no) s) (appl (mrkG [(no : Int) + 1]) (appl (setT 1 s) la))) := rfl
 rw [e]
 refine ⟨by rw [appl_len, l3]; exact hl, ?_, fun k hk => ?_⟩
 · rw [sec_mrk (by omega) (by decide), if_pos rfl, put_nil]; rfl
 ·
  rw [pg_mrk (by omega) (by unfold plc; omega)]
  unfold updB
  by_cases g : k = no
  · subst g; rw [if_pos rfl]; exact pg_set hs (by unfold plc; omega) (by rw [l2]; unfold plc; omega)
  ·
   rw [if_neg g, pg_out hs (by unfold plc; omega) (by rw [l2]; unfold plc; omega) (by unfold plc; omega) (by unfold plc; omega), pg_mrk (by omega) (by unfold plc; omega), pg_out hs (by decide) (by omega) (by unfold plc; omega) (by unfold plc; omega)]
   exact h.pg k hk
theorem mend_okT (hl : 5 + 4 * n ≤ la.length) (hb : ∀ k, k < n → k ≠ no → pgB la (plc k) = B k) (hs : s.length = 256) (hn : no < n) : Tw (appls (mendG no s) la) n (updB B no s) := by
 have l1 : (appl (setT (plc no) s) la).length = la.length := appl_len _ _
 have e : appls (mendG no s) la = appl (mrkG []) (appl (setT (plc no) s) la) := rfl
 rw [e]
 refine ⟨by rw [appl_len, l1]; exact hl, ?_, fun k hk => ?_⟩
 · rw [sec_mrk (by omega) (by decide), if_pos rfl, put_nil]; rfl
 ·
  rw [pg_mrk (by omega) (by unfold plc; omega)]
  unfold updB
  by_cases g : k = no
  · subst g; rw [if_pos rfl]; exact pg_set hs (by unfold plc; omega) (by unfold plc; omega)
  ·
   rw [if_neg g, pg_out hs (by unfold plc; omega) (by unfold plc; omega) (by unfold plc; omega) (by unfold plc; omega)]
   exact hb k hk g
theorem mend_mix {lb : List Bs} {pre post : List Grp} {g : Grp} (hl : 5 + 4 * n ≤ la.length) (h0 : sec la 0 = noteS no) (hc : pgB la 1 = s) (hb : ∀ k, k < n → k ≠ no → pgB la (plc k) = B k) (hs : s.length = 256) (hn : no < n)
  (hg : mendG no s = pre ++ g :: post) (hm : Mix (appls pre la) g lb) : Pend lb n B no s := by
 have ll : 5 + 4 * n ≤ lb.length := by rw [hm.1, appls_len]; exact hl
 unfold mendG at hg
 cases pre with
 | nil =>
  obtain ⟨rfl, rfl⟩ := List.cons.inj hg
  refine ⟨ll, .inr ⟨?_, ?_, fun k hk g => ?_⟩⟩
  · rw [mix_set0 hm (by unfold plc; omega)]; exact h0
  · rw [mix_set hm (by decide) (by unfold plc; omega)]; exact hc
  · rw [mix_set hm (by unfold plc; omega) (by unfold plc; omega)]; exact hb k hk g
 | cons g1 pre =>
  obtain ⟨rfl, hg1⟩ := List.cons.inj hg
  cases pre with
  | nil =>
   obtain ⟨rfl, rfl⟩ := List.cons.inj hg1
   have hm : Mix (appl (setT (plc no) s) la) (mrkG []) lb := hm
   have l1 : (appl (setT (plc no) s) la).length = la.length := appl_len _ _
   have hp : ∀ k, k < n → pgB lb (plc k) = updB B no s k := fun k hk => by
    rw [mix_mrk hm (by unfold plc; omega)]
    unfold updB
    by_cases g : k = no
    · subst g; rw [if_pos rfl]; exact pg_set hs (by unfold plc; omega) (by unfold plc; omega)
    · rw [if_neg g, pg_out hs (by unfold plc; omega) (by unfold plc; omega) (by unfold plc; omega) (by unfold plc; omega)]; exact hb k hk g
   refine ⟨ll, ?_⟩
   rcases mix_mrk0 hm with q | q
   ·
    refine .inr ⟨?_, ?_, fun k hk g => ?_⟩
    · rw [q, sec_out hs (by unfold plc; omega) (by unfold plc; omega) (by decide) (by unfold plc; omega)]; exact h0
    · rw [mix_mrk hm (by decide), pg_out hs (by unfold plc; omega) (by unfold plc; omega) (by decide) (by unfold plc; omega)]; exact hc
    · rw [hp k hk]; unfold updB; rw [if_neg g]
   · exact .inl ⟨by rw [q, put_nil]; rfl, .inr hp⟩
  | cons g2 pre => 
   obtain ⟨_, hg2⟩ := List.cons.inj hg1
   cases pre <;> cases hg2
theorem st_mix {lb : List Bs} {pre post : List Grp} {g : Grp} (h : Tw la n B) (hs : s.length = 256) (hn : no < n) (hg : stG no s = pre ++ g :: post) (hm : Mix (appls pre la) g lb) : Pend lb n B no s := by
 have hl := h.len
 have ll : 5 + 4 * n ≤ lb.length := by rw [hm.1, appls_len]; exact hl
 have l1 : (appl (setT 1 s) la).length = la.length := appl_len _ _
 have hb1 : ∀ k, k < n → pgB (appl (setT 1 s) la) (plc k) = B k := fun k hk => by rw [pg_out hs (by decide) (by omega) (by unfold plc; omega) (by unfold plc; omega)]; exact h.pg k hk
 have hn1 : sec (appl (setT 1 s) la) 0 = blankS := by rw [sec_out hs (by decide) (by omega) (by decide) (by omega)]; exact h.note
 have hc1 : pgB (appl (setT 1 s) la) 1 = s := pg_set hs (by decide) (by omega)
 unfold stG at hg
 cases pre with
 | nil =>
  obtain ⟨rfl, rfl⟩ := List.cons.inj hg
  refine ⟨ll, .inl ⟨?_, .inl fun k hk => ?_⟩⟩
  · rw [mix_set0 hm (by decide)]; exact h.note
  · rw [mix_set hm (by unfold plc; omega) (by unfold plc; omega)]; exact h.pg k hk
 | cons g1 pre =>
  obtain ⟨rfl, hg1⟩ := List.cons.inj hg
  cases pre with
  | nil =>
   obtain ⟨rfl, rfl⟩ := List.cons.inj hg1
   have hm : Mix (appl (setT 1 s) la) (mrkG [(no : Int) + 1]) lb := hm
   refine ⟨ll, ?_⟩
   rcases mix_mrk0 hm with q | q
   · exact .inl ⟨by rw [q]; exact hn1, .inl fun k hk => by rw [mix_mrk hm (by unfold plc; omega)]; exact hb1 k hk⟩
   · exact .inr ⟨q, by rw [mix_mrk hm (by decide)]; exact hc1, fun k hk _ => by rw [mix_mrk hm (by unfold plc; omega)]; exact hb1 k hk⟩
  | cons g2 pre =>
   obtain ⟨rfl, hg2⟩ := List.cons.inj hg1
   refine mend_mix (la := appl (mrkG [(no : Int) + 1]) (appl (setT 1 s) la)) (by rw [appl_len, l1]; exact hl) ?_ ?_ (fun k hk _ => ?_) hs hn hg2 hm
   · rw [sec_mrk (by omega) (by decide), if_pos rfl]; rfl
   · rw [pg_mrk (by omega) (by decide)]; exact hc1
   · rw [pg_mrk (by omega) (by unfold plc; omega)]; exact hb1 k hk
end store
end Go.Q
namespace Go.Q
theorem few_wrs : ∀ (g : Grp) (d : Dv) {k : Nat}, Few d.p k → Few (wrs d g).2.p (k + g.length)
 | [], _, _, h => h
 | (n, s) :: t, d, k, h => by
  have e : wrs d ((n, s) :: t) = if d.wrE n s = 0 then wrs (d.wr n s) t else (d.wrE n s, d.wr n s) := rfl
  have h1 : Few (d.wr n s).p (k + 1) := h.use
  rw [e]
  split
  · exact (few_wrs t _ h1).mono (by rw [List.length_cons]; omega)
  · exact h1.mono (by rw [List.length_cons]; omega)
theorem wrs_la : ∀ (g : Grp) (d : Dv), (wrs d g).2.la = d.la
 | [], _ => rfl
 | (n, s) :: t, d => by
  have e : wrs d ((n, s) :: t) = if d.wrE n s = 0 then wrs (d.wr n s) t else (d.wrE n s, d.wr n s) := rfl
  rw [e]
  split
  · exact wrs_la t _
  · rfl
theorem wrsy_len {g : Grp} {d : Dv} : (wrsy d g).2.la.length = d.la.length := by
 unfold wrsy
 split
 ·
  show (syncA _ _ _).length = _
  unfold syncA
  split
  · rw [settle_len, wrs_la]
  · rw [wrs_la]
 · rw [wrs_la]
theorem runs_len : ∀ (gs : List Grp) (d : Dv), (runs d gs).2.la.length = d.la.length
 | [], _ => rfl
 | g :: t, d => by
  have e : runs d (g :: t) = if (wrsy d g).1 = 0 then runs (wrsy d g).2 t else wrsy d g := rfl
  rw [e]
  split
  · rw [runs_len t, wrsy_len]
  · exact wrsy_len
def zer (n : Nat) : Bs := List.replicate n 0
def notedS (s : Bs) (n : Int) : Int × Int :=
 if s = zer 64 then (-1, 0) else if n < ((s[0]?).getD 0).toNat ∨ ((s[0]?).getD 0).toNat = 0 ∨ s.drop 1 ≠ zer 63 then (0, 9) else ((((s[0]?).getD 0).toNat : Int) - 1, 0)
def pgOf (b : Bs) (k : Int) : (Int × Int × List Cel) × Int :=
 if b = zer 256 then ((k, 0, []), 0) else if (readP b).1 = true ∧ (readP b).2.1 = k then ((readP b).2, 0) else ((0, 0, []), 9)
def mendR (d : Dv) (n : Int) : Int × Dv :=
 if d.p.off = true then (6, d) else if (notedS (sec d.la 0) n).2 ≠ 0 then (9, d) else if (notedS (sec d.la 0) n).1 < 0 then (0, d)
 else if (readP (pgB d.la 1)).1 = true ∧ (readP (pgB d.la 1)).2.1 = (notedS (sec d.la 0) n).1 then runs d (mendG (notedS (sec d.la 0) n).1 (pgB d.la 1)) else (9, d)
abbrev Pg := Int × Int × Value × List Cel
def pgC (a : Pg) : List Value := [iV a.1, iV a.2.1, a.2.2.1]
def PgIn (R : List Hp) (a : Pg) : Prop := Sl R 2 a.2.2.1 a.2.2.2.length (a.2.2.2.flatMap ceC)
theorem PgIn.mono {R R' : List Hp} {a : Pg} (h : PgIn R a) (hs : R ⊆ R') : PgIn R' a := Sl.mono h hs
def lpg (a : Pg) : Bs := laidP a.1 a.2.1 a.2.2.2
def st1 (d : Dv) (n : Int) (a : Pg) : Int × Dv := if lpg a = [] ∨ n ≤ a.1 then (1, d) else runs d (stG a.1 (lpg a))
theorem Dv.eta0 {d : Dv} (h : d.lo = []) : d = ⟨d.p, d.la, []⟩ := by obtain ⟨a, b, c⟩ := d; cases h; rfl
def Dv.cr (d : Dv) (keep : List Int) : Dv := ⟨backS d.p, settleS d.lo d.la keep, []⟩
def Dv.ar (d : Dv) (n : Int) : Dv := ⟨armS d.p n, d.la, d.lo⟩
theorem few_cr {d : Dv} {k : Nat} (h : Few d.p k) (keep : List Int) : Few (d.cr keep).p k := h
theorem few_ar {d : Dv} {k : Nat} (h : Few d.p k) {n : Int} (hn : n ≤ 9223372036854775807) : Few (d.ar n).p k := Few.arm h hn
abbrev Gr := Value × List Pg
def GrIn (R : List Hp) (g : Gr) : Prop := Sl R 3 g.1 g.2.length (g.2.flatMap pgC) ∧ ∀ a ∈ g.2, PgIn R a
theorem GrIn.mono {R R' : List Hp} {g : Gr} (h : GrIn R g) (hs : R ⊆ R') : GrIn R' g := ⟨Sl.mono h.1 hs, fun a ha => (h.2 a ha).mono hs⟩
end Go.Q
namespace Go.Q
def pgT (a : Pg) : Int × Int × List Cel := (a.1, a.2.1, a.2.2.2)
def Told (now : List Pg) (B : Nat → Bs) (n : Nat) : Prop := now.length = n ∧ ∀ k, k < n → ∃ a, now[k]? = some a ∧ pgOf (B k) k = (pgT a, 0)
set_option maxRecDepth 1000000 in
theorem read_zer : (readP (zer 256)).1 = false := by decide +kernel
theorem lpg_zer {no gsn : Int} {l : List Cel} (h : pageR no gsn l = true) : laidP no gsn l ≠ zer 256 := fun e => by
 have h1 := readP_laid h
 rw [e] at h1
 have h2 := read_zer
 rw [h1] at h2
 cases h2
theorem pgOf_laid {no gsn : Int} {l : List Cel} (h : pageR no gsn l = true) : pgOf (laidP no gsn l) no = ((no, gsn, l), 0) := by
 unfold pgOf
 rw [if_neg (lpg_zer h), readP_laid h, if_pos ⟨rfl, rfl⟩]
theorem Told.set {now : List Pg} {B : Nat → Bs} {n no : Nat} {a : Pg} {s : Bs} (h : Told now B n) (hn : no < n) (e : pgOf s no = (pgT a, 0)) : Told (now.set no a) (updB B no s) n := by
 refine ⟨by rw [List.length_set]; exact h.1, fun k hk => ?_⟩
 unfold updB
 by_cases g : k = no
 ·
  subst g
  exact ⟨a, by rw [List.getElem?_set_self (by rw [h.1]; exact hk)], by rw [if_pos rfl]; exact e⟩
 ·
  obtain ⟨b, h1, h2⟩ := h.2 k hk
  exact ⟨b, by rw [List.getElem?_set_ne (by omega)]; exact h1, by rw [if_neg g]; exact h2⟩
theorem Told.congr {now : List Pg} {B B' : Nat → Bs} {n : Nat} (h : Told now B n) (e : ∀ k, k < n → B' k = B k) : Told now B' n := ⟨h.1, fun k hk => by rw [e k hk]; exact h.2 k hk⟩
theorem lpg_right {a : Pg} (h : lpg a ≠ []) : pageR a.1 a.2.1 a.2.2.2 = true := by
 cases g : pageR a.1 a.2.1 a.2.2.2 with
 | true => rfl
 | false => exact absurd (laidP_no g) h
theorem lpg_len {a : Pg} (h : lpg a ≠ []) : (lpg a).length = 256 := laidP_len (lpg_right h)
theorem page_no {no gsn : Int} {l : List Cel} (h : pageR no gsn l = true) : 0 ≤ no ∧ no < 64 := by
 unfold pageR at h
 rw [Bool.and_eq_true] at h
 have := of_decide_eq_true h.1
 exact ⟨this.1, this.2.1⟩
theorem gok_st {n k : Nat} {no : Nat} {s : Bs} (hk : 5 + 4 * n ≤ k) (hn : no < n) (h64 : no < 64) (hs : s.length = 256) : ∀ g ∈ stG no s, GOk g k := by
 intro g hg
 simp only [stG, List.mem_cons, List.not_mem_nil, or_false] at hg
 rcases hg with rfl | rfl | rfl | rfl
 · exact gok_set hs (by decide) (by omega)
 · exact gok_mrk ⟨by omega, by omega⟩ (by omega)
 · exact gok_set hs (by unfold plc; omega) (by unfold plc; omega)
 · exact gok_nil (by omega)
theorem gok_mend {n k : Nat} {no : Nat} {s : Bs} (hk : 5 + 4 * n ≤ k) (hn : no < n) (hs : s.length = 256) : ∀ g ∈ mendG no s, GOk g k := by
 intro g hg
 simp only [mendG, List.mem_cons, List.not_mem_nil, or_false] at hg
 rcases hg with rfl | rfl
 · exact gok_set hs (by unfold plc; omega) (by unfold plc; omega)
 · exact gok_nil (by omega)
theorem st_spec {p : Pw} {la : List Bs} {n : Nat} {B : Nat → Bs} {a : Pg} (hT : Tw la n B) (ho : p.off = false) (hs : lpg a ≠ []) (hn : a.1 < (n : Int)) :
  ((st1 ⟨p, la, []⟩ n a).1 = 0 ∧ Tw (st1 ⟨p, la, []⟩ n a).2.la n (updB B a.1.toNat (lpg a)) ∧ (st1 ⟨p, la, []⟩ n a).2.lo = [] ∧ (st1 ⟨p, la, []⟩ n a).2.p.off = false) ∨
  ((st1 ⟨p, la, []⟩ n a).1 = 6 ∧ LoOk (st1 ⟨p, la, []⟩ n a).2.lo (st1 ⟨p, la, []⟩ n a).2.la.length ∧ ∀ keep, Pend (settleS (st1 ⟨p, la, []⟩ n a).2.lo (st1 ⟨p, la, []⟩ n a).2.la keep) n B a.1.toNat (lpg a)) := by
 have hR := page_no (lpg_right hs)
 obtain ⟨no, e⟩ : ∃ no : Nat, a.1 = (no : Int) := ⟨a.1.toNat, by omega⟩
 have hL := lpg_len hs
 have hlen := hT.len
 have e1 : st1 ⟨p, la, []⟩ n a = runs ⟨p, la, []⟩ (stG no (lpg a)) := by unfold st1; rw [if_neg (fun g => g.elim hs (by omega)), e]
 rw [e1, e, Int.toNat_natCast]
 rcases runs_spec (stG no (lpg a)) p la (gok_st (n := n) hlen (by omega) (by omega) hL) ho with ⟨h1, h2, h3, h4⟩ | ⟨h1, h2, pre, g, post, h3, h4, h5⟩
 · exact .inl ⟨h1, by rw [h2]; exact st_ok hT hL (by omega), h3, h4⟩
 ·
  refine .inr ⟨h1, by rw [runs_len]; exact h2, fun keep => ?_⟩
  rw [h4]
  exact st_mix hT hL (by omega) h3 (crash_mix h5 (fun q hq => (h2 q hq).1.1) keep _)
theorem noted_blank (n : Int) : notedS blankS n = (-1, 0) := if_pos rfl
theorem put_one {no : Nat} (h : no < 64) : putS 1 [(no : Int) + 1] = [by8 ((no : Int) + 1)] := by rw [put1 ⟨by omega, by omega⟩, be1]
theorem note_head {no : Nat} (h : no < 64) : noteS no = by8 ((no : Int) + 1) :: zer 63 := by
 unfold noteS
 rw [put_one h]
 rfl
theorem by8_one {x : Int} (h : 0 ≤ x ∧ x ≤ 255) : ((by8 x).toNat : Int) = x := by
 have e := by8_len (n := x.toNat) (by omega)
 rw [show ((x.toNat : Nat) : Int) = x by omega] at e
 omega
theorem noted_note {no n : Nat} (h : no < n) (hn : n ≤ 64) : notedS (noteS no) n = ((no : Int), 0) := by
 have e := by8_one (x := (no : Int) + 1) ⟨by omega, by omega⟩
 rw [note_head (by omega)]
 unfold notedS
 have h0 : ((by8 ((no : Int) + 1) :: zer 63)[0]?).getD 0 = by8 ((no : Int) + 1) := rfl
 have h1 : (by8 ((no : Int) + 1) :: zer 63).drop 1 = zer 63 := rfl
 rw [h0, h1]
 have hne : by8 ((no : Int) + 1) :: zer 63 ≠ zer 64 := fun g => by
  have g1 : by8 ((no : Int) + 1) = 0 := (List.cons.inj (show by8 ((no : Int) + 1) :: zer 63 = 0 :: zer 63 from g)).1
  rw [g1] at e
  have : ((0 : UInt8).toNat : Int) = 0 := rfl
  omega
 rw [if_neg hne, if_neg (fun g => g.elim (fun g => by omega) (fun g => g.elim (fun g => by omega) (fun g => g rfl)))]
 have : (((by8 ((no : Int) + 1)).toNat : Int) - 1, (0 : Int)) = ((no : Int), 0) := by rw [e]; congr 1; omega
 exact this
theorem mend_spec {p : Pw} {la : List Bs} {n : Nat} {B : Nat → Bs} {no : Nat} {gsn : Int} {l : List Cel} (hP : Pend la n B no (laidP no gsn l)) (hr : pageR no gsn l = true) (hn : no < n) (hn64 : n ≤ 64) (ho : p.off = false) :
  ((mendR ⟨p, la, []⟩ n).1 = 0 ∧ (Tw (mendR ⟨p, la, []⟩ n).2.la n B ∨ Tw (mendR ⟨p, la, []⟩ n).2.la n (updB B no (laidP no gsn l))) ∧ (mendR ⟨p, la, []⟩ n).2.lo = [] ∧ (mendR ⟨p, la, []⟩ n).2.p.off = false) ∨
  ((mendR ⟨p, la, []⟩ n).1 = 6 ∧ LoOk (mendR ⟨p, la, []⟩ n).2.lo (mendR ⟨p, la, []⟩ n).2.la.length ∧ ∀ keep, Pend (settleS (mendR ⟨p, la, []⟩ n).2.lo (mendR ⟨p, la, []⟩ n).2.la keep) n B no (laidP no gsn l)) := by
 have hL := laidP_len hr
 obtain ⟨hlen, ⟨h0, hp⟩ | ⟨h0, hc, hb⟩⟩ := hP
 ·
  have e : mendR ⟨p, la, []⟩ n = (0, ⟨p, la, []⟩) := by
   unfold mendR
   simp only [h0, noted_blank, ho]
   rfl
  rw [e]
  exact .inl ⟨rfl, hp.imp (fun q => ⟨hlen, h0, q⟩) (fun q => ⟨hlen, h0, q⟩), rfl, ho⟩
 ·
  have e : mendR ⟨p, la, []⟩ n = runs ⟨p, la, []⟩ (mendG no (laidP no gsn l)) := by
   unfold mendR
   simp only [h0, hc, noted_note hn hn64, readP_laid hr, ho]
   rw [if_neg (by decide), if_neg (by decide), if_neg (by omega), if_pos ⟨trivial, trivial⟩]
  rw [e]
  rcases runs_spec (mendG no (laidP no gsn l)) p la (gok_mend (n := n) hlen hn hL) ho with ⟨h1, h2, h3, h4⟩ | ⟨h1, h2, pre, g, post, h3, h4, h5⟩
  · exact .inl ⟨h1, .inr (by rw [h2]; exact mend_okT hlen hb hL hn), h3, h4⟩
  ·
   refine .inr ⟨h1, by rw [runs_len]; exact h2, fun keep => ?_⟩
   rw [h4]
   exact mend_mix hlen h0 hc hb hL hn h3 (crash_mix h5 (fun q hq => (h2 q hq).1.1) keep _)
theorem tw_mend {p : Pw} {la : List Bs} {n : Nat} {B : Nat → Bs} (h : Tw la n B) (ho : p.off = false) : mendR ⟨p, la, []⟩ n = (0, ⟨p, la, []⟩) := by
 unfold mendR
 simp only [h.note, noted_blank, ho]
 rfl
end Go.Q
namespace Go.Q
theorem full_settle {lo : List (Int × Bs)} {k : Nat} (hl : LoOk lo k) : ∀ (keep : List Int) (la : List Bs), Full64 la → Full64 (settleS lo la keep)
 | [], la, h => h
 | m :: keep, la, h => by
  have e : settleS lo la (m :: keep) = settleS lo (match getB lo m with | some s => la.set m.toNat s | none => la) keep := rfl
  rw [e]
  cases g : getB lo m with
  | none => exact full_settle hl keep la h
  | some x =>
   refine full_settle hl keep _ ?_
   intro s hs
   rcases List.mem_or_eq_of_mem_set hs with hs | rfl
   · exact h s hs
   · exact (hl _ (getB_some g)).2
theorem wrs_ne6 : ∀ (g : Grp) (d : Dv), d.p.off = false → d.p.armed = false → (wrs d g).1 ≠ 6 ∧ (wrs d g).2.p.off = false ∧ (wrs d g).2.p.armed = false
 | [], _, h1, h2 => ⟨(show (0 : Int) ≠ 6 by decide), h1, h2⟩
 | (n, s) :: t, d, h1, h2 => by
  have hb : useB d.p = true ∧ (useS d.p).off = false ∧ (useS d.p).armed = false := by
   unfold useB useS
   rw [h1, h2]
   exact ⟨rfl, rfl, rfl⟩
  have e : wrs d ((n, s) :: t) = if d.wrE n s = 0 then wrs (d.wr n s) t else (d.wrE n s, d.wr n s) := rfl
  rw [e]
  split
  · exact wrs_ne6 t (d.wr n s) hb.2.1 hb.2.2
  ·
   refine ⟨?_, hb.2.1, hb.2.2⟩
   unfold Dv.wrE writeE
   rw [if_pos hb.1]
   split
   · show (0 : Int) ≠ 6; decide
   · show (1 : Int) ≠ 6; decide
theorem wrsy_ne6 {g : Grp} {d : Dv} (h1 : d.p.off = false) (h2 : d.p.armed = false) : (wrsy d g).1 ≠ 6 ∧ (wrsy d g).2.p.off = false ∧ (wrsy d g).2.p.armed = false := by
 obtain ⟨a1, a2, a3⟩ := wrs_ne6 g d h1 h2
 unfold wrsy
 split
 ·
  have hb : useB (wrs d g).2.p = true ∧ (useS (wrs d g).2.p).off = false ∧ (useS (wrs d g).2.p).armed = false := by
   unfold useB useS
   rw [a2, a3]
   exact ⟨rfl, rfl, rfl⟩
  refine ⟨?_, hb.2.1, hb.2.2⟩
  unfold Dv.syE syncE
  rw [if_pos hb.1]
  show (0 : Int) ≠ 6; decide
 · exact ⟨a1, a2, a3⟩
theorem runs_ne6 : ∀ (gs : List Grp) (d : Dv), d.p.off = false → d.p.armed = false → (runs d gs).1 ≠ 6 ∧ (runs d gs).2.p.off = false ∧ (runs d gs).2.p.armed = false
 | [], _, h1, h2 => ⟨(show (0 : Int) ≠ 6 by decide), h1, h2⟩
 | g :: t, d, h1, h2 => by
  have e : runs d (g :: t) = if (wrsy d g).1 = 0 then runs (wrsy d g).2 t else wrsy d g := rfl
  obtain ⟨a1, a2, a3⟩ := wrsy_ne6 (g := g) h1 h2
  rw [e]
  split
  · exact runs_ne6 t _ a2 a3
  · exact ⟨a1, a2, a3⟩
theorem mend_ne6 {d : Dv} {n : Int} (h1 : d.p.off = false) (h2 : d.p.armed = false) : (mendR d n).1 ≠ 6 := by
 unfold mendR
 rw [if_neg (by rw [h1]; decide)]
 split
 · show (9 : Int) ≠ 6; decide
 ·
  split
  · show (0 : Int) ≠ 6; decide
  ·
   split
   · exact (runs_ne6 _ _ h1 h2).1
   · show (9 : Int) ≠ 6; decide
theorem st_spec2 {d : Dv} {n : Nat} {B : Nat → Bs} {a : Pg} (hlo : d.lo = []) (hT : Tw d.la n B) (ho : d.p.off = false) :
  ((st1 d n a).1 = 0 ∧ lpg a ≠ [] ∧ a.1 < (n : Int) ∧ Tw (st1 d n a).2.la n (updB B a.1.toNat (lpg a)) ∧ (st1 d n a).2.lo = [] ∧ (st1 d n a).2.p.off = false) ∨
  ((st1 d n a).1 = 6 ∧ lpg a ≠ [] ∧ a.1 < (n : Int) ∧ LoOk (st1 d n a).2.lo (st1 d n a).2.la.length ∧ ∀ keep, Pend (settleS (st1 d n a).2.lo (st1 d n a).2.la keep) n B a.1.toNat (lpg a)) ∨ st1 d n a = (1, d) := by
 by_cases hs : lpg a = []
 · exact .inr (.inr (if_pos (.inl hs)))
 ·
  by_cases hn : a.1 < (n : Int)
  ·
   rw [Dv.eta0 hlo]
   rcases st_spec (p := d.p) (a := a) hT ho hs hn with ⟨h1, h2, h3, h4⟩ | ⟨h1, h2, h3⟩
   · exact .inl ⟨h1, hs, hn, h2, h3, h4⟩
   · exact .inr (.inl ⟨h1, hs, hn, h2, h3⟩)
  · exact .inr (.inr (if_pos (.inr (by omega))))
def TcS (d : Dv) (now ul : List Pg) (B : Nat → Bs) : Prop :=
 Told now B 6 ∧ LoOk d.lo d.la.length ∧ ((ul = [] ∧ d.lo = [] ∧ d.p.off = false ∧ Tw d.la 6 B) ∨ (∃ a, ul = [a] ∧ lpg a ≠ [] ∧ a.1 < 6 ∧ ∀ keep, Pend (settleS d.lo d.la keep) 6 B a.1.toNat (lpg a)))
theorem TcS.go {d : Dv} {now : List Pg} {B : Nat → Bs} (h : TcS d now [] B) : Told now B 6 ∧ d.lo = [] ∧ d.p.off = false ∧ Tw d.la 6 B := by
 obtain ⟨h1, _, ⟨_, h2, h3, h4⟩ | ⟨a, e, _⟩⟩ := h
 · exact ⟨h1, h2, h3, h4⟩
 · cases e
theorem lpg_no {a : Pg} (h : lpg a ≠ []) : 0 ≤ a.1 ∧ a.1 < 64 := page_no (lpg_right h)
theorem lpg_of {a : Pg} (h : lpg a ≠ []) : pgOf (lpg a) a.1 = (pgT a, 0) := pgOf_laid (lpg_right h)
theorem TcS.ok {d : Dv} {now : List Pg} {B : Nat → Bs} {a : Pg} (h : TcS d now [] B) (e : (st1 d 6 a).1 = 0) : (0 ≤ a.1 ∧ a.1 < 6) ∧ TcS (st1 d 6 a).2 (now.set a.1.toNat a) [] (updB B a.1.toNat (lpg a)) := by
 obtain ⟨h1, h2, h3, h4⟩ := h.go
 rcases st_spec2 (n := 6) (a := a) h2 h4 h3 with ⟨_, q2, q3, q4, q5, q6⟩ | ⟨q, _⟩ | q
 ·
  have hn := lpg_no q2
  refine ⟨⟨hn.1, q3⟩, h1.set (by omega) (by rw [show ((a.1.toNat : Nat) : Int) = a.1 by omega]; exact lpg_of q2), ?_, .inl ⟨rfl, q5, q6, q4⟩⟩
  exact (show LoOk (st1 d 6 a).2.lo (st1 d 6 a).2.la.length from by rw [show (st1 d 6 a).2.lo = [] from q5]; exact LoOk.nil _)
 · exact absurd (q.symm.trans e) (by decide)
 ·
  have e2 : (st1 d 6 a).1 = 1 := congrArg Prod.fst q
  rw [e2] at e; cases e
theorem TcS.off {d : Dv} {now : List Pg} {B : Nat → Bs} {a : Pg} (h : TcS d now [] B) (e : (st1 d 6 a).1 = 6) : TcS (st1 d 6 a).2 now [a] B := by
 obtain ⟨h1, h2, h3, h4⟩ := h.go
 rcases st_spec2 (n := 6) (a := a) h2 h4 h3 with ⟨q, _⟩ | ⟨_, q2, q3, q4, q5⟩ | q
 · exact absurd (q.symm.trans e) (by decide)
 · exact ⟨h1, q4, .inr ⟨a, rfl, q2, q3, q5⟩⟩
 ·
  have e2 : (st1 d 6 a).1 = 1 := congrArg Prod.fst q
  rw [e2] at e; cases e
def TcP (la : List Bs) (ul : List Pg) (B : Nat → Bs) : Prop := (ul = [] ∧ Tw la 6 B) ∨ (∃ a, ul = [a] ∧ lpg a ≠ [] ∧ a.1 < 6 ∧ Pend la 6 B a.1.toNat (lpg a))
theorem TcS.crash {d : Dv} {now ul : List Pg} {B : Nat → Bs} (h : TcS d now ul B) (keep : List Int) : TcP (d.cr keep).la ul B := by
 obtain ⟨_, _, ⟨h1, h2, _, h4⟩ | ⟨a, h1, h2, h3, h4⟩⟩ := h
 ·
  refine .inl ⟨h1, ?_⟩
  show Tw (settleS d.lo d.la keep) 6 B
  rw [h2, settle_none]; exact h4
 · exact .inr ⟨a, h1, h2, h3, h4 keep⟩
theorem TcP.open {d : Dv} {ul : List Pg} {B : Nat → Bs} (h : TcP d.la ul B) (hlo : d.lo = []) (ho : d.p.off = false) (ha : d.p.armed = false) :
  (mendR d 6).1 = 0 ∧ (mendR d 6).2.lo = [] ∧ (mendR d 6).2.p.off = false ∧ ((ul = [] ∧ Tw (mendR d 6).2.la 6 B) ∨ (∃ a, ul = [a] ∧ lpg a ≠ [] ∧ a.1 < 6 ∧ (Tw (mendR d 6).2.la 6 B ∨ Tw (mendR d 6).2.la 6 (updB B a.1.toNat (lpg a))))) := by
 have h6 := mend_ne6 (n := 6) ho ha
 rw [Dv.eta0 hlo] at h6 ⊢
 rcases h with ⟨h1, h2⟩ | ⟨a, h1, h2, h3, h4⟩
 ·
  have e : mendR ⟨d.p, d.la, []⟩ 6 = (0, ⟨d.p, d.la, []⟩) := tw_mend (p := d.p) h2 ho
  rw [e]
  exact ⟨rfl, rfl, ho, .inl ⟨h1, h2⟩⟩
 ·
  have hn := lpg_no h2
  have ea : ((a.1.toNat : Nat) : Int) = a.1 := by omega
  have el : laidP (a.1.toNat : Int) a.2.1 a.2.2.2 = lpg a := by rw [ea]; rfl
  have H := mend_spec (p := d.p) (n := 6) (B := B) (no := a.1.toNat) (gsn := a.2.1) (l := a.2.2.2) (by rw [el]; exact h4) (by rw [ea]; exact lpg_right h2) (by omega) (by decide) ho
  rw [el] at H
  rcases H with ⟨q1, q2, q3, q4⟩ | ⟨q1, _⟩
  · exact ⟨q1, q3, q4, .inr ⟨a, h1, h2, h3, q2⟩⟩
  · exact absurd q1 h6
end Go.Q
namespace Go.Q
theorem Win.first {a : Nat} {t s : List UInt8} (h : Win a t s) (ha : 8 ≤ a) : t[0]? = s[0]? := by
 have hl := h.1
 cases t with
 | nil => cases s with
  | nil => rfl
  | cons c s => simp at hl
 | cons b t => cases s with
  | nil => simp at hl
  | cons c s =>
   have e : b = c := byte_ext fun i hi => by
    have := h.2 i (.inl (by omega))
    rw [bits_get, bits_get, Nat.div_eq_of_lt hi, Nat.mod_eq_of_lt hi] at this
    simpa using this
   rw [e]; rfl
end Go.Q
namespace Go.Q
def fitsF (ep cut pl ab : Int) (f : Fr) : Bool := rightS f && decide (f.pl = pl ∧ ab < f.gsn ∧ f.ep ≤ ep ∧ (f.pl < cut ∨ f.ep = ep))
def chainS (ep cut : Int) : Nat → List UInt8 → Int → Int → List Fr × Int
 | 0, _, pl, _ => ([], pl)
 | n + 1, s, pl, ab => if (opensB s && fitsF ep cut pl ab (oF s)) = true then (oF s :: (chainS ep cut n (s.drop (oN s).toNat) (pl + oN s) (oF s).gsn).1, (chainS ep cut n (s.drop (oN s).toNat) (pl + oN s) (oF s).gsn).2) else ([], pl)
theorem chain_stop {ep cut : Int} {n : Nat} {s : List UInt8} {pl ab : Int} (h : opensB s = false ∨ fitsF ep cut pl ab (oF s) = false) : chainS ep cut n s pl ab = ([], pl) := by
 cases n with
 | zero => rfl
 | succ n =>
  rw [chainS, if_neg]
  rcases h with h | h
  · rw [h]; simp
  · rw [h]; simp
theorem opens_nil : opensB [] = false := opens_short (by decide)
theorem oN_le {s : List UInt8} (h : opensB s = true) : 25 ≤ oN s ∧ oN s ≤ (s.length : Int) := by
 have h1 := oN_yes h
 have h2 := opens_made h
 unfold oN at *
 rw [if_pos h] at *
 omega
theorem chain_step {ep cut : Int} {n : Nat} {s : List UInt8} {pl ab : Int} {acc : List Fr} {res : List Fr × Int} (hn : 0 < n) (h1 : opensB s = true) (h2 : fitsF ep cut pl ab (oF s) = true)
  (hr : res = (acc ++ (chainS ep cut n s pl ab).1, (chainS ep cut n s pl ab).2)) :
  res = ((acc ++ [oF s]) ++ (chainS ep cut (n - 1) (s.drop (oN s).toNat) (pl + oN s) (oF s).gsn).1, (chainS ep cut (n - 1) (s.drop (oN s).toNat) (pl + oN s) (oF s).gsn).2) := by
 obtain ⟨m, rfl⟩ : ∃ m, n = m + 1 := ⟨n - 1, by omega⟩
 rw [hr, chainS, if_pos (by rw [h1, h2]; rfl)]
 simp
theorem chain_end {ep cut : Int} {n : Nat} {s : List UInt8} {pl ab : Int} {acc : List Fr} {res : List Fr × Int} (h : opensB s = false ∨ fitsF ep cut pl ab (oF s) = false)
  (hr : res = (acc ++ (chainS ep cut n s pl ab).1, (chainS ep cut n s pl ab).2)) : res = (acc, pl) := by
 rw [hr, chain_stop h]; simp
theorem sumS_two {a b : Int} (ha : 0 ≤ a) (hb : 0 ≤ b) (hab : a + b ≤ 4000000000000000000) : sumS 0 [a, b] = a + b := by
 rw [sumS, if_neg (by omega), sumS, if_neg (by omega), sumS]; omega
theorem take_flat_le (l : List (List UInt8)) (k : Nat) {x : List UInt8} (h : l[k]? = some x) : (l.take k).flatten.length + x.length ≤ l.flatten.length := by
 have e := drop_of h
 have h2 : l.flatten = (l.take k).flatten ++ (l.drop k).flatten := by rw [← List.flatten_append, List.take_append_drop]
 rw [h2, e, List.length_append, List.flatten_cons, List.length_append]; omega
theorem Sl.le4 {L : List Hp} {v : Value} {n : Nat} {cs : List Value} (h : Sl L 4 v n cs) : n ≤ 9223372036854775807 := by
 obtain ⟨p, c, _, h1, h2, _⟩ := h; omega
end Go.Q
namespace Go.Q
theorem Has.below {w w' : World} (H : Has w w' [[Hp.of w]]) : RowKit.Below w.heap.size w w' := by
 have hs : ∀ b o, w.heap[b]? = some o → w'.heap[b]? = some o := Has0.sub H (Hp.of w) (by simp)
 have hb : ∀ k, k < w.heap.size → w'.heap[k]? = w.heap[k]? := fun k hk => by
  rw [hs k w.heap[k] (Array.getElem?_eq_getElem hk), Array.getElem?_eq_getElem hk]
 refine ⟨H.os, H.tape, H.output, ?_, hb⟩
 rcases Nat.eq_zero_or_pos w.heap.size with h | h
 · omega
 ·
  have h1 := hb (w.heap.size - 1) (by omega)
  rw [Array.getElem?_eq_getElem (show w.heap.size - 1 < w.heap.size by omega)] at h1
  have h2 := (Array.getElem?_eq_some_iff.1 h1).1
  omega
theorem cells_row {w : World} {x : Addr} {vs : List Value} (h0 : 0 < vs.length) (h : ∀ i v, vs[i]? = some v → w.cell? (x.add i) = some v) : ∃ b off, x = ⟨b, off, none⟩ ∧ CellsAt [Hp.of w] b off vs := by
 obtain ⟨b, off, spot⟩ := x
 have hc := h 0 vs[0] (List.getElem?_eq_getElem h0)
 simp only [Addr.add, if_true, World.cell?] at hc
 cases hb : w.heap[b]? with
 | none => rw [hb] at hc; cases hc
 | some o =>
  cases o with
  | cells c T f =>
   rw [hb] at hc
   simp only at hc
   cases spot with
   | some s => simp at hc
   | none =>
    refine ⟨b, off, rfl, Hp.of w, List.mem_singleton.2 rfl, c, T, f, hb, fun j v hv => ?_⟩
    have := h j v hv
    rw [add_lit] at this
    simpa [World.cell?, hb] using this
  | _ => rw [hb] at hc; simp at hc
end Go.Q
namespace Go.Q
theorem wf_i64 {x : Int} (h : (Lit.int .i64 x).wf = true) : -9223372036854775808 ≤ x ∧ x ≤ 9223372036854775807 := by
 simp only [Lit.wf, IntKind.min, IntKind.max, IntKind.signed, IntKind.bits, Bool.and_eq_true, decide_eq_true_eq, if_true] at h
 omega
theorem wf_u8 {x : Int} (h : (Lit.int .u8 x).wf = true) : 0 ≤ x ∧ x ≤ 255 := by
 simp [Lit.wf, IntKind.min, IntKind.max, IntKind.signed, IntKind.bits] at h
 omega
end Go.Q
namespace Go.Q
section
variable {H : Type} {enc : TypeId × Value → H} {P : Program} {w : World} {t e : TypeId} {cs : List Value}
def Rd (enc : TypeId × Value → H) (P : Program) (w : World) (t : TypeId) (cs : List Value) : Prop := ∃ fuel x, DataW.trod enc P w 0 (fun _ => true) true fuel t cs = some x
theorem rd_int {k : IntKind} (ht : P.underlying t = some (.int k)) (h : Rd enc P w t cs) : ∃ n, cs = [.int k n] ∧ (Lit.int k n).wf = true := by
 obtain ⟨f, x, h⟩ := h
 obtain ⟨n, h1, _, h2⟩ := DataW.trod_int ht h
 exact ⟨n, h1, h2⟩
theorem rd_i64 (ht : P.underlying t = some (.int .i64)) (h : Rd enc P w t cs) : ∃ n, cs = [iV n] ∧ (-9223372036854775808 : Int) ≤ n ∧ n ≤ 9223372036854775807 := by
 obtain ⟨n, h1, h2⟩ := rd_int ht h
 exact ⟨n, h1, wf_i64 h2⟩
theorem rd_bool (ht : P.underlying t = some .bool) (h : Rd enc P w t cs) : ∃ b, cs = [.bool b] := by
 obtain ⟨f, x, h⟩ := h
 cases f with
 | zero => simp [DataW.trod] at h
 | succ m =>
  unfold DataW.trod at h
  rw [ht] at h
  split at h <;> simp_all
theorem rd_slice (ht : P.underlying t = some (.slice e)) (h : Rd enc P w t cs) :
  cs = [.slice none 0 0] ∨ ∃ a len cap, cs = [.slice (some a) len cap] ∧ len ≤ cap ∧ cap ≤ 9223372036854775807 ∧
   ∀ i, i < len → ∃ r : List Value, r.length = P.cellsOf e ∧ Rd enc P w e r ∧ ∀ j, j < P.cellsOf e → w.cell? (a.add (i * P.cellsOf e + j)) = r[j]? := by
 obtain ⟨f, x, h⟩ := h
 rcases DataW.trod_slice ht h with ⟨h, _⟩ | ⟨a, len, cap, elems, rest, n, _, h1, _, _, h2, h3, h4, h5, _⟩
 · exact .inl h
 ·
  refine .inr ⟨a, len, cap, h1, h2, by simpa [maxLen] using h3, fun i hi => ?_⟩
  have hb := h5 i hi
  rw [List.getElem?_eq_getElem (by omega)] at hb
  obtain ⟨r, hr, hd⟩ := Option.bind_eq_some_iff.1 hb
  obtain ⟨_, g1, g2⟩ := World.cells?_some hr
  refine ⟨r, g1, ⟨n, _, hd⟩, fun j hj => ?_⟩
  rw [← g2 j hj, Addr.add_add]
theorem rd_rows {α : Type} {f : α → List Value} {Good : α → Prop} {sz : Nat} (ht : P.underlying t = some (.slice e)) (hc : P.cellsOf e = sz) (h0 : 0 < sz) (hf : ∀ a, (f a).length = sz)
  (each : ∀ r, Rd enc P w e r → ∃ a, r = f a ∧ Good a) (h : Rd enc P w t cs) : ∃ (v : Value) (l : List α), cs = [v] ∧ Sl [Hp.of w] sz v l.length (l.flatMap f) ∧ ∀ a ∈ l, Good a := by
 subst hc
 rcases rd_slice ht h with rfl | ⟨a, len, cap, rfl, h1, h2, h3⟩
 · exact ⟨_, [], rfl, ⟨none, 0, rfl, Nat.le_refl _, by omega, by simp, fun g => by simp at g⟩, fun a ha => by cases ha⟩
 ·
  have key : ∀ k, k ≤ len → ∃ l : List α, l.length = k ∧ (∀ a ∈ l, Good a) ∧ ∀ i v, (l.flatMap f)[i]? = some v → w.cell? (a.add i) = some v := by
   intro k
   induction k with
   | zero => intro _; exact ⟨[], rfl, fun a ha => (by cases ha), fun i v hv => by simp at hv⟩
   | succ k ih =>
    intro hk
    obtain ⟨l, hl, hg, hcell⟩ := ih (by omega)
    obtain ⟨r, hr, hd, hrc⟩ := h3 k (by omega)
    obtain ⟨y, rfl, hy⟩ := each r hd
    refine ⟨l ++ [y], by simp [hl], fun a ha => ?_, fun i v hv => ?_⟩
    ·
     rcases List.mem_append.1 ha with g | g
     · exact hg a g
     · rw [List.mem_singleton.1 g]; exact hy
    ·
     rw [List.flatMap_append, List.flatMap_cons, List.flatMap_nil, List.append_nil] at hv
     have hlen := flat_len hf l
     rcases Nat.lt_or_ge i (l.flatMap f).length with g | g
     · rw [List.getElem?_append_left g] at hv; exact hcell i v hv
     ·
      rw [List.getElem?_append_right g] at hv
      have hj : i - (l.flatMap f).length < P.cellsOf e := by rw [← hr]; exact (List.getElem?_eq_some_iff.1 hv).1
      have := hrc (i - (l.flatMap f).length) hj
      rw [hv] at this
      rw [← this]; congr 2
      rw [hlen, hl] at g hj ⊢; omega
  obtain ⟨l, hl, hg, hcell⟩ := key len (Nat.le_refl _)
  refine ⟨_, l, rfl, ⟨some a, cap, by rw [hl], by omega, h2, flat_len hf l, fun g => ?_⟩, hg⟩
  obtain ⟨b, off, rfl, hc⟩ := cells_row (w := w) (x := a) (vs := l.flatMap f) (by rw [flat_len hf l]; exact Nat.mul_pos g h0) hcell
  exact ⟨b, off, rfl, hc⟩
theorem flat_one {α : Type} (f : α → Value) : ∀ l : List α, l.flatMap (fun a => [f a]) = l.map f
 | [] => rfl
 | a :: l => by rw [List.flatMap_cons, flat_one f l]; rfl
theorem rd_row1 {α : Type} {f : α → Value} {Good : α → Prop} (ht : P.underlying t = some (.slice e)) (hc : P.cellsOf e = 1)
  (each : ∀ r, Rd enc P w e r → ∃ a, r = [f a] ∧ Good a) (h : Rd enc P w t cs) : ∃ (v : Value) (l : List α), cs = [v] ∧ Sl [Hp.of w] 1 v l.length (l.map f) ∧ ∀ a ∈ l, Good a := by
 obtain ⟨v, l, h1, h2, h3⟩ := rd_rows (f := fun a => [f a]) ht hc (by omega) (fun _ => rfl) each h
 exact ⟨v, l, h1, by rw [flat_one] at h2; exact h2, h3⟩
def I64 (n : Int) : Prop := -9223372036854775808 ≤ n ∧ n ≤ 9223372036854775807
theorem rd_ints (ht : P.underlying t = some (.slice e)) (he : P.underlying e = some (.int .i64)) (hc : P.cellsOf e = 1) (h : Rd enc P w t cs) : ∃ (v : Value) (l : List Int), cs = [v] ∧ Ints [Hp.of w] v l ∧ ∀ a ∈ l, I64 a :=
 rd_row1 ht hc (fun r hr => rd_i64 he hr) h
theorem val_one {r : Reach} {b0 : Nat} {v u : Value} (hn : match P.underlying t with | some (.struct _) => False | some (.array _ _) => False | _ => True) (hval : Value.okWide P w r b0 t v) (h : v.cells.toList = [u]) : v = u := by
 cases v with
 | agg c =>
  unfold Value.okWide at hval
  cases hu : P.underlying t with
  | none => rw [hu] at hval; simp [Cell.okWide, Cell.ok, hu] at hval
  | some d => rw [hu] at hn hval; cases d <;> first | exact hn.elim | (simp [Cell.okWide, Cell.ok, hu] at hval)
 | _ => simpa [Value.cells] using h
end
end Go.Q
namespace Go.Q
section
variable {H : Type} {enc : TypeId × Value → H} {P : Program} {w : World} {t e : TypeId} {cs : List Value}
def RdS (enc : TypeId × Value → H) (P : Program) (w : World) (t : TypeId) (cs : List Value) : Prop := ∃ fuel x, DataW.trod enc P w 0 (fun _ => true) true fuel t cs = some x ∧ ∀ n ∈ DataW.weights P t x.1, n ≤ reachBytes
theorem RdS.rd (h : RdS enc P w t cs) : Rd enc P w t cs := let ⟨f, x, h, _⟩ := h; ⟨f, x, h⟩
theorem rds_of {v : Value} {d : DataW H} {ps : List MemPlace} (h : DataW.Trod enc P w 0 (fun _ => true) true t v d ps) {ts : List TypeId} {ds : List (DataW H)} (hs : (DataW.weightsEach P ts ds).all (· ≤ reachBytes) = true) {j : Nat} (ht : ts[j]? = some t) (hd : ds[j]? = some d) : RdS enc P w t v.cells.toList :=
 ⟨h.choose, _, h.choose_spec, fun n hn => by simpa using List.all_eq_true.1 hs n (DataW.weights_mem_each ht hd n hn)⟩
theorem rds_string (ht : P.underlying t = some .string) (h : RdS enc P w t cs) : ∃ l : List UInt8, cs = [S l] ∧ l.length ≤ 140737488355328 := by
 obtain ⟨f, x, h, hw⟩ := h
 obtain ⟨s, h1, hx, _⟩ := DataW.trod_string ht h
 refine ⟨s.data.toList, by rw [h1, S_of], ?_⟩
 have := hw s.data.toList.length (by rw [hx]; simp [DataW.weights])
 have := reachBytes_lt
 omega
theorem mem_all {H : Type} {P : Program} {t : TypeId} : ∀ {ds : List (DataW H)} {d : DataW H}, d ∈ ds → ∀ n ∈ DataW.weights P t d, n ∈ DataW.weightsAll P t ds
 | d0 :: ds, d, h, n, hn => by
  simp only [DataW.weightsAll, List.mem_append]
  rcases List.mem_cons.1 h with rfl | h
  · exact .inl hn
  · exact .inr (mem_all h n hn)
theorem rds_slice (ht : P.underlying t = some (.slice e)) (h : RdS enc P w t cs) :
  cs = [.slice none 0 0] ∨ ∃ a len cap, cs = [.slice (some a) len cap] ∧ len ≤ cap ∧ cap ≤ 9223372036854775807 ∧ len * P.bytesOf e ≤ 140737488355328 ∧
   ∀ i, i < len → ∃ r : List Value, r.length = P.cellsOf e ∧ RdS enc P w e r ∧ ∀ j, j < P.cellsOf e → w.cell? (a.add (i * P.cellsOf e + j)) = r[j]? := by
 obtain ⟨f, x, h, hw⟩ := h
 rcases DataW.trod_slice ht h with ⟨h, _⟩ | ⟨a, len, cap, elems, rest, n, _, h1, hx, _, h2, h3, h4, h5, _⟩
 · exact .inl h
 ·
  refine .inr ⟨a, len, cap, h1, h2, by simpa [maxLen] using h3, ?_, fun i hi => ?_⟩
  ·
   have h9 := hw (((elems.map (·.1)).length + (rest.map (·.1)).length) * P.bytesOf e) (by rw [hx]; simp [DataW.weights, ht])
   have h8 : len * P.bytesOf e ≤ ((elems.map (·.1)).length + (rest.map (·.1)).length) * P.bytesOf e := Nat.mul_le_mul_right _ (by rw [List.length_map]; omega)
   have := reachBytes_lt
   omega
  ·
   have hb := h5 i hi
   rw [List.getElem?_eq_getElem (by omega)] at hb
   obtain ⟨r, hr, hd⟩ := Option.bind_eq_some_iff.1 hb
   obtain ⟨_, g1, g2⟩ := World.cells?_some hr
   refine ⟨r, g1, ⟨n, _, hd, fun m hm => hw m ?_⟩, fun j hj => ?_⟩
   ·
    rw [hx]
    simp only [DataW.weights, ht]
    refine List.mem_cons_of_mem _ (List.mem_append_left _ (mem_all (d := (elems[i]'(by omega)).1) ?_ m hm))
    exact List.mem_map.2 ⟨_, List.getElem_mem _, rfl⟩
   · rw [← g2 j hj, Addr.add_add]
theorem rds_rows {α : Type} {f : α → List Value} {Good : α → Prop} {sz : Nat} (ht : P.underlying t = some (.slice e)) (hc : P.cellsOf e = sz) (h0 : 0 < sz) (hf : ∀ a, (f a).length = sz)
  (each : ∀ r, RdS enc P w e r → ∃ a, r = f a ∧ Good a) (h : RdS enc P w t cs) : ∃ (v : Value) (l : List α), cs = [v] ∧ Sl [Hp.of w] sz v l.length (l.flatMap f) ∧ (∀ a ∈ l, Good a) ∧ l.length * P.bytesOf e ≤ 140737488355328 := by
 subst hc
 rcases rds_slice ht h with rfl | ⟨a, len, cap, rfl, h1, h2, hby, h3⟩
 · exact ⟨_, [], rfl, ⟨none, 0, rfl, Nat.le_refl _, by omega, by simp, fun g => by simp at g⟩, fun a ha => (by cases ha), by simp⟩
 ·
  have key : ∀ k, k ≤ len → ∃ l : List α, l.length = k ∧ (∀ a ∈ l, Good a) ∧ ∀ i v, (l.flatMap f)[i]? = some v → w.cell? (a.add i) = some v := by
   intro k
   induction k with
   | zero => intro _; exact ⟨[], rfl, fun a ha => (by cases ha), fun i v hv => by simp at hv⟩
   | succ k ih =>
    intro hk
    obtain ⟨l, hl, hg, hcell⟩ := ih (by omega)
    obtain ⟨r, hr, hd, hrc⟩ := h3 k (by omega)
    obtain ⟨y, rfl, hy⟩ := each r hd
    refine ⟨l ++ [y], by simp [hl], fun a ha => ?_, fun i v hv => ?_⟩
    ·
     rcases List.mem_append.1 ha with g | g
     · exact hg a g
     · rw [List.mem_singleton.1 g]; exact hy
    ·
     rw [List.flatMap_append, List.flatMap_cons, List.flatMap_nil, List.append_nil] at hv
     have hlen := flat_len hf l
     rcases Nat.lt_or_ge i (l.flatMap f).length with g | g
     · rw [List.getElem?_append_left g] at hv; exact hcell i v hv
     ·
      rw [List.getElem?_append_right g] at hv
      have hj : i - (l.flatMap f).length < P.cellsOf e := by rw [← hr]; exact (List.getElem?_eq_some_iff.1 hv).1
      have := hrc (i - (l.flatMap f).length) hj
      rw [hv] at this
      rw [← this]; congr 2
      rw [hlen, hl] at g hj ⊢; omega
  obtain ⟨l, hl, hg, hcell⟩ := key len (Nat.le_refl _)
  refine ⟨_, l, rfl, ⟨some a, cap, by rw [hl], by omega, h2, flat_len hf l, fun g => ?_⟩, hg, by rw [hl]; exact hby⟩
  obtain ⟨b, off, rfl, hc⟩ := cells_row (w := w) (x := a) (vs := l.flatMap f) (by rw [flat_len hf l]; exact Nat.mul_pos g h0) hcell
  exact ⟨b, off, rfl, hc⟩
theorem rds_row1 {α : Type} {f : α → Value} {Good : α → Prop} (ht : P.underlying t = some (.slice e)) (hc : P.cellsOf e = 1)
  (each : ∀ r, RdS enc P w e r → ∃ a, r = [f a] ∧ Good a) (h : RdS enc P w t cs) : ∃ (v : Value) (l : List α), cs = [v] ∧ Sl [Hp.of w] 1 v l.length (l.map f) ∧ (∀ a ∈ l, Good a) ∧ l.length * P.bytesOf e ≤ 140737488355328 := by
 obtain ⟨v, l, h1, h2, h3⟩ := rds_rows (f := fun a => [f a]) ht hc (by omega) (fun _ => rfl) each h
 exact ⟨v, l, h1, by rw [flat_one] at h2; exact h2, h3⟩
theorem rds_strings (ht : P.underlying t = some (.slice e)) (he : P.underlying e = some .string) (hc : P.cellsOf e = 1) (h : RdS enc P w t cs) : ∃ (v : Value) (l : List (List UInt8)), cs = [v] ∧ Sl [Hp.of w] 1 v l.length (l.map sV) ∧ (∀ a ∈ l, a.length ≤ 140737488355328) ∧ l.length * P.bytesOf e ≤ 140737488355328 :=
 rds_row1 (f := sV) ht hc (fun r hr => rds_string he hr) h
end
end Go.Q
namespace Go.Q
structure DAct where
 kind : Int
 n : Int
 other : Bool
 dv : Value
 data : List Bs
 kv : Value
 keep : List Int
def DaOk (R : List Hp) (a : DAct) : Prop := Sl R 1 a.dv a.data.length (a.data.map sV) ∧ Ints R a.kv a.keep ∧ (∀ t ∈ a.data, t.length ≤ 140737488355328) ∧ -9223372036854775808 ≤ a.n ∧ a.n ≤ 9223372036854775807
theorem DaOk.mono {R R' : List Hp} {a : DAct} (h : DaOk R a) (hs : R ⊆ R') : DaOk R' a := ⟨h.1.mono hs, h.2.1.mono hs, h.2.2⟩
def DFin (a : DAct) : Prop := a.data.length ≤ 6 ∧ a.data.flatten.length ≤ 200 ∧ a.keep.length ≤ 40
def DFine (l : List DAct) : Prop := l.length ≤ 60 ∧ ∀ a ∈ l, DFin a
theorem DFine.snoc {l : List DAct} {k : Nat} {x : DAct} (h : ∀ a ∈ l.take k, DFin a) (hx : l[k]? = some x) (hf : DFin x) : ∀ a ∈ l.take (k + 1), DFin a := by
 rw [List.take_add_one, hx]
 intro y hy
 rcases List.mem_append.1 hy with g | g
 · exact h y g
 · simp at g; rw [g]; exact hf
theorem flatten_take_succ {l : List Bs} {k : Nat} {x : Bs} (hx : l[k]? = some x) : (l.take (k + 1)).flatten = (l.take k).flatten ++ x := by
 rw [List.take_add_one, hx]; simp
end Go.Q
namespace Go.Q
structure AAct where
 kind : Int
 at_ : Int
 size : Int
 dv : Value
 data : List Bs
 kv : Value
 keep : List Int
def AaOk (R : List Hp) (a : AAct) : Prop := Sl R 1 a.dv a.data.length (a.data.map sV) ∧ Ints R a.kv a.keep ∧ (∀ t ∈ a.data, t.length ≤ 140737488355328)
theorem AaOk.mono {R R' : List Hp} {a : AAct} (h : AaOk R a) (hs : R ⊆ R') : AaOk R' a := ⟨h.1.mono hs, h.2.1.mono hs, h.2.2⟩
def AFin (a : AAct) : Prop := a.data.length ≤ 6 ∧ a.data.flatten.length ≤ 2000 ∧ a.keep.length ≤ 40
def AFine (l : List AAct) : Prop := l.length ≤ 30 ∧ ∀ a ∈ l, AFin a
theorem AFine.snoc {l : List AAct} {k : Nat} {x : AAct} (h : ∀ a ∈ l.take k, AFin a) (hx : l[k]? = some x) (hf : AFin x) : ∀ a ∈ l.take (k + 1), AFin a := by
 rw [List.take_add_one, hx]
 intro y hy
 rcases List.mem_append.1 hy with g | g
 · exact h y g
 · simp at g; rw [g]; exact hf
end Go.Q
namespace Go.Q
def Cn (now : Bs) (la : List Bs) (lo : List (Int × Bs)) (fr n : Nat) : Prop := now.length = n * 64 ∧ ∀ i, i < n * 64 → now[i]? = (nowAt la lo (fr + i / 64))[i % 64]?
def rdR (now : Bs) (a L k : Nat) : Bs := (List.range k).map fun j => (now[(a + j) % L]?).getD 0
def wrR (now : Bs) (a L : Nat) (s : Bs) (k : Nat) : Bs := (List.range k).foldl (fun c j => c.set ((a + j) % L) ((s[j]?).getD 0)) now
theorem rdR_succ (now : Bs) (a L k : Nat) : rdR now a L (k + 1) = rdR now a L k ++ [(now[(a + k) % L]?).getD 0] := by
 unfold rdR; rw [List.range_succ, List.map_append]; rfl
theorem wrR_succ (now : Bs) (a L : Nat) (s : Bs) (k : Nat) : wrR now a L s (k + 1) = (wrR now a L s k).set ((a + k) % L) ((s[k]?).getD 0) := by
 unfold wrR; rw [List.range_succ, List.foldl_append]; rfl
theorem wrR_len (now : Bs) (a L : Nat) (s : Bs) : ∀ k, (wrR now a L s k).length = now.length
 | 0 => rfl
 | k + 1 => by rw [wrR_succ, List.length_set, wrR_len]
theorem rdR_len (now : Bs) (a L k : Nat) : (rdR now a L k).length = k := by unfold rdR; simp
theorem rdR_add (now : Bs) (a L d : Nat) : ∀ k, rdR now a L (d + k) = rdR now a L d ++ rdR now ((a + d) % L) L k
 | 0 => by simp [rdR]
 | k + 1 => by
  rw [← Nat.add_assoc, rdR_succ, rdR_add now a L d k, rdR_succ, List.append_assoc]
  rw [show ((a + d) % L + k) % L = (a + (d + k)) % L by rw [Nat.mod_add_mod, Nat.add_assoc]]
theorem wrR_add (now : Bs) (a L : Nat) (s : Bs) (d : Nat) : ∀ k, wrR now a L s (d + k) = wrR (wrR now a L s d) ((a + d) % L) L (s.drop d) k
 | 0 => rfl
 | k + 1 => by
  rw [← Nat.add_assoc, wrR_succ, wrR_add now a L s d k, wrR_succ]
  rw [show ((a + d) % L + k) % L = (a + (d + k)) % L by rw [Nat.mod_add_mod, Nat.add_assoc], List.getElem?_drop]
theorem rdR_at (now : Bs) {a L k j : Nat} (hj : j < k) : (rdR now a L k)[j]? = some ((now[(a + j) % L]?).getD 0) := by
 unfold rdR; rw [List.getElem?_map, List.getElem?_range hj]; rfl
theorem wrR_at {now : Bs} {a L : Nat} {s : Bs} (hL : now.length = L) : ∀ k, a + k ≤ L → ∀ i, i < L → (wrR now a L s k)[i]? = if a ≤ i ∧ i < a + k then some ((s[i - a]?).getD 0) else now[i]?
 | 0, _, i, _ => by rw [if_neg (by omega)]; rfl
 | k + 1, hk, i, hi => by
  rw [wrR_succ, Nat.mod_eq_of_lt (by omega), List.getElem?_set, wrR_len]
  by_cases e : a + k = i
  · rw [if_pos e, if_pos (by omega), if_pos (by omega), ← e, Nat.add_sub_cancel_left]
  ·
   rw [if_neg e, wrR_at hL k (by omega) i hi]
   by_cases g : a ≤ i ∧ i < a + k
   · rw [if_pos g, if_pos (by omega)]
   · rw [if_neg g, if_neg (by omega)]
theorem piece1_nat {fr a z : Nat} (hz : 0 < z) : piece1 (fr : Int) (a : Int) (z : Int) = ⟨((fr + a / 64 : Nat) : Int), ((a % 64 : Nat) : Int), ((min (a % 64 + z) 64 : Nat) : Int)⟩ := by
 unfold piece1; congr 1 <;> omega
def dN (a z : Nat) : Nat := min (a % 64 + z) 64 - a % 64
theorem dN_ok {a z : Nat} (hz : 0 < z) : 0 < dN a z ∧ dN a z ≤ z ∧ a % 64 + dN a z ≤ 64 ∧ min (a % 64 + z) 64 = a % 64 + dN a z := by
 unfold dN; omega
theorem pieces_nat {fr L a z f : Nat} (hz : 0 < z) : piecesS (fr : Int) (L : Int) (f + 1) (a : Int) (z : Int) = ⟨((fr + a / 64 : Nat) : Int), ((a % 64 : Nat) : Int), ((a % 64 + dN a z : Nat) : Int)⟩ :: piecesS (fr : Int) (L : Int) f (((a + dN a z) % L : Nat) : Int) ((z - dN a z : Nat) : Int) := by
 obtain ⟨h1, h2, h3, h4⟩ := dN_ok (a := a) hz
 rw [piecesS, if_neg (by omega), piece1_nat hz, h4]
 simp only
 rw [show (a : Int) + (((a % 64 + dN a z : Nat) : Int) - ((a % 64 : Nat) : Int)) = ((a + dN a z : Nat) : Int) by omega, show (z : Int) - (((a % 64 + dN a z : Nat) : Int) - ((a % 64 : Nat) : Int)) = ((z - dN a z : Nat) : Int) by omega]
 rfl
theorem ring_get {now : Bs} {la : List Bs} {lo : List (Int × Bs)} {fr n : Nat} (h : Cn now la lo fr n) (h64 : ∀ j, j < n → (nowAt la lo (fr + j)).length = 64) : ∀ (f a z : Nat), a < n * 64 → z ≤ f → getP la lo (piecesS (fr : Int) ((n * 64 : Nat) : Int) f (a : Int) (z : Int)) = rdR now a (n * 64) z
 | f, a, 0, _, _ => by cases f <;> rfl
 | 0, a, z + 1, _, h => by omega
 | f + 1, a, z + 1, ha, hf => by
  obtain ⟨h1, h2, h3, h4⟩ := dN_ok (a := a) (z := z + 1) (by omega)
  rw [pieces_nat (by omega)]
  have hr := ring_get h h64 f ((a + dN a (z + 1)) % (n * 64)) (z + 1 - dN a (z + 1)) (Nat.mod_lt _ (by omega)) (by omega)
  unfold getP at hr ⊢
  rw [List.flatMap_cons, hr]
  have hs : rdR now a (n * 64) (z + 1) = rdR now a (n * 64) (dN a (z + 1)) ++ rdR now ((a + dN a (z + 1)) % (n * 64)) (n * 64) (z + 1 - dN a (z + 1)) := by
   rw [← rdR_add]; congr 1; omega
  rw [hs]
  congr 1
  have hlen := h64 (a / 64) (by omega)
  unfold partP
  simp only [Int.toNat_natCast]
  refine List.ext_getElem? fun j => ?_
  rw [List.getElem?_drop, List.getElem?_take]
  by_cases hj : j < dN a (z + 1)
  · rw [if_pos (by omega), rdR_at now hj, Nat.mod_eq_of_lt (show a + j < n * 64 by omega), h.2 _ (by omega), show (a + j) / 64 = a / 64 by omega, show (a + j) % 64 = a % 64 + j by omega, List.getElem?_eq_getElem (by omega)]; rfl
  · rw [if_neg (by omega), List.getElem?_eq_none (by rw [rdR_len]; omega)]
theorem nowAt_put {la : List Bs} {lo : List (Int × Bs)} {s : Bs} {m j : Nat} : nowAt la (putB lo (m : Int) s) j = if j = m then s else nowAt la lo j := by
 unfold nowAt
 rw [getB_put]
 by_cases e : j = m
 · subst e; rw [if_pos rfl, if_pos rfl]; rfl
 · rw [if_neg (by omega), if_neg e]
theorem put1_len2 {la : List Bs} {lo : List (Int × Bs)} {m r d : Nat} {all : Bs} (hl : (nowAt la lo m).length = 64) (hd : r + d ≤ 64) (ha : d ≤ all.length) : (putA1 la lo ⟨(m : Int), (r : Int), ((r + d : Nat) : Int)⟩ all).length = 64 := by
 unfold putA1
 simp only [Int.toNat_natCast, List.length_append, List.length_take, List.length_drop, hl]; omega
theorem ring_set1 {now : Bs} {la : List Bs} {lo : List (Int × Bs)} {fr n a d : Nat} {all : Bs} (h : Cn now la lo fr n) (h64 : ∀ j, j < n → (nowAt la lo (fr + j)).length = 64) (ha : a < n * 64) (hd : a % 64 + d ≤ 64) (hal : d ≤ all.length) :
  Cn (wrR now a (n * 64) all d) la (putB lo ((fr + a / 64 : Nat) : Int) (fillS (putA1 la lo ⟨((fr + a / 64 : Nat) : Int), ((a % 64 : Nat) : Int), ((a % 64 + d : Nat) : Int)⟩ all))) fr n := by
 have hl := h64 (a / 64) (by omega)
 have hp := put1_len2 (la := la) (lo := lo) (all := all) hl hd hal
 have hfill : ∀ s : Bs, s.length = 64 → fillS s = s := fun s hs => by unfold fillS; rw [hs, List.drop_eq_nil_of_le (by rw [blank_len]; omega), List.append_nil]
 rw [hfill _ hp]
 refine ⟨by rw [wrR_len]; exact h.1, fun i hi => ?_⟩
 rw [wrR_at h.1 d (by omega) i hi, nowAt_put]
 by_cases e : i / 64 = a / 64
 ·
  rw [if_pos (show fr + i / 64 = fr + a / 64 by omega)]
  unfold putA1
  simp only [Int.toNat_natCast]
  by_cases g : a ≤ i ∧ i < a + d
  ·
   rw [if_pos g, List.getElem?_append_right (by rw [List.length_take]; omega), List.length_take, hl, List.getElem?_append_left (by rw [List.length_take]; omega), List.getElem?_take, if_pos (by omega)]
   rw [show i % 64 - min (a % 64) 64 = i - a by omega, List.getElem?_eq_getElem (by omega)]; rfl
  ·
   rw [if_neg g, h.2 i hi, e]
   by_cases g2 : i < a
   · rw [List.getElem?_append_left (by rw [List.length_take]; omega), List.getElem?_take, if_pos (by omega)]
   ·
    rw [List.getElem?_append_right (by rw [List.length_take]; omega), List.length_take, hl, List.getElem?_append_right (by rw [List.length_take]; omega), List.length_take, List.getElem?_drop]
    congr 1; omega
 · rw [if_neg (show ¬ (a ≤ i ∧ i < a + d) by omega), if_neg (show ¬ fr + i / 64 = fr + a / 64 by omega), h.2 i hi]
theorem ring_set {la : List Bs} {fr n : Nat} : ∀ (f a : Nat) (z : Nat) (now : Bs) (lo : List (Int × Bs)) (all : Bs), Cn now la lo fr n → (∀ j, j < n → (nowAt la lo (fr + j)).length = 64) → a < n * 64 → z ≤ f → z ≤ all.length →
  Cn (wrR now a (n * 64) all z) la (setP la (piecesS (fr : Int) ((n * 64 : Nat) : Int) f (a : Int) (z : Int)) lo all) fr n
 | f, a, 0, now, lo, all, h, _, _, _, _ => by cases f <;> exact h
 | 0, a, z + 1, _, _, _, _, _, _, h, _ => by omega
 | f + 1, a, z + 1, now, lo, all, h, h64, ha, hf, hz => by
  obtain ⟨h1, h2, h3, h4⟩ := dN_ok (a := a) (z := z + 1) (by omega)
  rw [pieces_nat (by omega), setP]
  have hs : wrR now a (n * 64) all (z + 1) = wrR (wrR now a (n * 64) all (dN a (z + 1))) ((a + dN a (z + 1)) % (n * 64)) (n * 64) (all.drop (dN a (z + 1))) (z + 1 - dN a (z + 1)) := by
   rw [← wrR_add]; congr 1; omega
  rw [hs]
  simp only
  rw [show (((a % 64 + dN a (z + 1) : Nat) : Int) - ((a % 64 : Nat) : Int)).toNat = dN a (z + 1) by omega]
  refine ring_set f _ _ _ _ _ (ring_set1 h h64 ha h3 (by omega)) (fun j hj => ?_) (Nat.mod_lt _ (by omega)) (by omega) (by rw [List.length_drop]; omega)
  rw [nowAt_put]
  split
  · rw [fill_len (by rw [put1_len2 (h64 _ (by omega)) h3 (by omega)]; omega)]
  · exact h64 j hj
theorem area_now (la : List Bs) (lo : List (Int × Bs)) (fr n : Nat) (h64 : ∀ j, j < n → (nowAt la lo (fr + j)).length = 64) : ∃ now, Cn now la lo fr n := by
 refine ⟨(List.range (n * 64)).map fun i => ((nowAt la lo (fr + i / 64))[i % 64]?).getD 0, by simp, fun i hi => ?_⟩
 have hl := h64 (i / 64) (by omega)
 rw [List.getElem?_map, List.getElem?_range hi, Option.map_some, List.getElem?_eq_getElem (by omega)]; rfl
theorem area_64 {la : List Bs} {lo : List (Int × Bs)} (h64 : Full64 la) (hlo : LoOk lo la.length) {fr n : Int} (hfr : 0 ≤ fr) (hn : 1 ≤ n) (hfn : fr + n ≤ la.length) : ∀ j, j < n.toNat → (nowAt la lo (fr.toNat + j)).length = 64 := fun j hj => nowAt_len h64 hlo (by omega)
theorem getP_now {now : Bs} {la : List Bs} {lo : List (Int × Bs)} {fr n a z : Int} (h : Cn now la lo fr.toNat n.toNat) (h64 : ∀ j, j < n.toNat → (nowAt la lo (fr.toNat + j)).length = 64) (hfr : 0 ≤ fr) (hn : 1 ≤ n) (ha : 0 ≤ a ∧ a < n * 64) (hz : 0 ≤ z) :
  getP la lo (allP fr (n * 64) a z) = rdR now a.toNat (n.toNat * 64) z.toNat := by
 have := ring_get h h64 z.toNat a.toNat z.toNat (by omega) (Nat.le_refl _)
 unfold allP
 rw [show ((n.toNat * 64 : Nat) : Int) = n * 64 by omega, show ((fr.toNat : Nat) : Int) = fr by omega, show ((a.toNat : Nat) : Int) = a by omega, show ((z.toNat : Nat) : Int) = z by omega] at this
 exact this
theorem getP_len {la : List Bs} {lo : List (Int × Bs)} {fr n a z : Int} (h64 : Full64 la) (hlo : LoOk lo la.length) (hfr : 0 ≤ fr) (hn : 1 ≤ n) (hfn : fr + n ≤ la.length) (ha : 0 ≤ a ∧ a < n * 64) (hz : 0 ≤ z) : (getP la lo (allP fr (n * 64) a z)).length = z.toNat := by
 obtain ⟨now, h⟩ := area_now la lo fr.toNat n.toNat (area_64 h64 hlo hfr hn hfn)
 rw [getP_now h (area_64 h64 hlo hfr hn hfn) hfr hn ha hz, rdR_len]
theorem rdR_all {now : Bs} {L : Nat} (h : now.length = L) : rdR now 0 L L = now := by
 refine List.ext_getElem? fun i => ?_
 by_cases hi : i < L
 · rw [rdR_at now hi, Nat.zero_add, Nat.mod_eq_of_lt hi, List.getElem?_eq_getElem (by omega)]; rfl
 · rw [List.getElem?_eq_none (by rw [rdR_len]; omega), List.getElem?_eq_none (by omega)]
theorem getP_all {now : Bs} {la : List Bs} {lo : List (Int × Bs)} {fr n : Int} (h : Cn now la lo fr.toNat n.toNat) (h64 : ∀ j, j < n.toNat → (nowAt la lo (fr.toNat + j)).length = 64) (hfr : 0 ≤ fr) (hn : 1 ≤ n) : getP la lo (allP fr (n * 64) (0 % (n * 64)) (n * 64)) = now := by
 rw [Int.zero_emod, getP_now h h64 hfr hn ⟨by omega, by omega⟩ (by omega), show (n * 64).toNat = n.toNat * 64 by omega]
 exact rdR_all h.1
theorem setP_now {now : Bs} {la : List Bs} {lo : List (Int × Bs)} {fr n a : Int} {all : Bs} (h : Cn now la lo fr.toNat n.toNat) (h64 : ∀ j, j < n.toNat → (nowAt la lo (fr.toNat + j)).length = 64) (hfr : 0 ≤ fr) (hn : 1 ≤ n) (ha : 0 ≤ a ∧ a < n * 64) :
  Cn (wrR now a.toNat (n.toNat * 64) all all.length) la (setP la (allP fr (n * 64) a (all.length : Int)) lo all) fr.toNat n.toNat := by
 have := ring_set (la := la) (fr := fr.toNat) (n := n.toNat) all.length a.toNat all.length now lo all h h64 (by omega) (Nat.le_refl _) (Nat.le_refl _)
 unfold allP
 rw [show ((n.toNat * 64 : Nat) : Int) = n * 64 by omega, show ((fr.toNat : Nat) : Int) = fr by omega, show ((a.toNat : Nat) : Int) = a by omega] at this
 exact this
end Go.Q
namespace Go.Q
theorem flatMap_take {α β : Type} (f : α → List β) (n : Nat) (hf : ∀ x, (f x).length = n) : ∀ (l : List α) (j : Nat), (l.flatMap f).take (j * n) = (l.take j).flatMap f
 | [], j => by simp
 | x :: l, 0 => by simp
 | x :: l, j + 1 => by
  rw [List.flatMap_cons, List.take_succ_cons, List.flatMap_cons, ← flatMap_take f n hf l j, List.take_append, hf, List.take_of_length_le (by rw [hf, Nat.add_mul]; omega), show (j + 1) * n - n = j * n by rw [Nat.add_mul]; omega]
section ops
variable {P : Program} {ρ : Operand → Value} {E w : World} {ss : List (List Hp)} {K : Value → World → Prop} {dst : Option Tmp} {T : TypeId} {pos : String} {after : Array Edge} {g : Option (Nat × Bool)}
end ops
end Go.Q
namespace Go.Q
theorem sl_nil0 {L : List Hp} {sz n cap : Nat} {cs : List Value} (h : Sl L sz (.slice none n cap) n cs) : n = 0 := by
 obtain ⟨q, c, e, h1, h2, h3, h4⟩ := h
 cases e
 rcases Nat.eq_zero_or_pos n with h | h
 · exact h
 · obtain ⟨b, o, e, _⟩ := h4 h; cases e
end Go.Q
namespace Go.Q
def OwnL (e : TypeId) (sz : Nat) (v : Value) (n : Nat) (cs : List Value) (hs : List Hp) : Prop :=
 Own e sz v n cs hs ∨ (cs.length = n * sz ∧ ∃ b cur, v = .slice (some ⟨b, 0, none⟩) n n ∧ hs = [Hp.one b (.cells cur e (0, 0))] ∧ n ≤ maxLen ∧ cur.toList.take (n * sz) = cs)
theorem OwnL.sl {e : TypeId} {sz n : Nat} {v : Value} {cs : List Value} {hs : List Hp} (H : OwnL e sz v n cs hs) : Sl hs sz v n cs := by
 rcases H with H | ⟨hl, b, cur, rfl, rfl, hcm, htake⟩
 · exact H.sl
 ·
  refine ⟨_, n, rfl, Nat.le_refl _, by simpa [maxLen] using hcm, hl, fun _ => ⟨b, 0, rfl, ?_⟩⟩
  refine CellsAt.one ?_
  rw [List.drop_zero, hl]; exact htake
theorem OwnL.nil (e : TypeId) (sz : Nat) : OwnL e sz (.slice none 0 0) 0 [] [] := .inl (Own.nil e sz)
theorem OwnL.one {e : TypeId} {sz n : Nat} {v : Value} {cs : List Value} {hs : List Hp} (H : OwnL e sz v n cs hs) : v.oneCell' = true := Sl.one H.sl
def cutV : Value → Nat → Nat → Value
 | .slice p _ _, j, sz => sliced p 0 j j sz
 | v, _, _ => v
theorem ownL_cut {α : Type} {f : α → List Value} {sz : Nat} (hf : ∀ x, (f x).length = sz) {e : TypeId} {v : Value} {l : List α} {hs : List Hp} (h : OwnL e sz v l.length (l.flatMap f) hs) {j : Nat} (hj : j ≤ l.length) : OwnL e sz (cutV v j sz) (l.take j).length ((l.take j).flatMap f) hs := by
 rw [List.length_take, Nat.min_eq_left hj, ← flatMap_take f sz hf]
 have key : ∀ b cap cur, cur.toList.take (l.length * sz) = l.flatMap f → l.length ≤ maxLen → (l.flatMap f).length = l.length * sz → OwnL e sz (cutV (.slice (some ⟨b, 0, none⟩) l.length cap) j sz) j ((l.flatMap f).take (j * sz)) [Hp.one b (.cells cur e (0, 0))] := by
  intro b cap cur ht hm hl
  refine .inr ⟨?_, b, cur, ?_, rfl, by omega, ?_⟩
  · rw [List.length_take, hl]; exact Nat.min_eq_left (Nat.mul_le_mul_right _ hj)
  · simp [cutV, sliced, add_lit]
  · rw [← ht, List.take_take, Nat.min_eq_left (Nat.mul_le_mul_right _ hj)]
 rcases h with ⟨hl, ⟨rfl, h0, rfl⟩ | ⟨b, cap, cur, rfl, rfl, hnc, hcm, hsz, ht⟩⟩ | ⟨hl, b, cur, rfl, rfl, hcm, ht⟩
 ·
  have : j = 0 := by omega
  subst this
  have e0 : l = [] := List.eq_nil_of_length_eq_zero h0
  subst e0
  exact .inl ⟨by simp, .inl ⟨rfl, rfl, rfl⟩⟩
 · exact key b cap cur ht (by omega) hl
 · exact key b _ cur ht hcm hl
section ops
variable {P : Program} {ρ : Operand → Value} {E w : World} {ss : List (List Hp)} {K : Value → World → Prop} {dst : Option Tmp} {T : TypeId} {pos : String} {after : Array Edge} {g : Option (Nat × Bool)}
theorem bounds_hm {n cap : Nat} {k k' : IntKind} {j m : Int} (h1 : 0 ≤ j) (h2 : j ≤ m) (h3 : m ≤ cap) (w : World) :
  (Instr.sliceBounds true n cap none (some (.int k j)) (some (.int k' m))).run P w = .ok ((0 : Int).toNat, j.toNat, m.toNat) w := by
 have e' : ((m.toNat : Nat) : Int) = m := Int.toNat_of_nonneg (by omega)
 simp [Instr.sliceBounds, run_sliceBound, h1, h2, h3, e', (show 0 ≤ m by omega)]
theorem o_slhm {x y y2 : Operand} {t e : TypeId} {zz : Value} {v : Value} {sz by_ n : Nat} {cs : List Value} {L : List Hp} {k k' : IntKind} {j : Int} (ht : P.underlying t = some (.slice e)) (hi : TI P e zz sz by_)
  (hx : ρ x = v) (hs : Sl L sz v n cs) (hy : ρ y = .int k j) (hy2 : ρ y2 = .int k' j) (h0 : 0 ≤ j) (h1 : j ≤ n)
  (hK : K (cutV v j.toNat sz) w) : OK P ⟨dst, .slice t x none (some y) (some y2), T, pos, after, g⟩ ρ w K := by
 have e1 : P.elem t = e := by simp [Program.elem, ht]
 obtain ⟨p, cap, rfl⟩ := hs.form
 obtain ⟨p', cap', e2, hnc, hcm, hl, hp⟩ := hs
 cases e2
 have hrun : (Instr.sliceAt t (ρ x) ((none : Option Operand).map ρ) ((some y).map ρ) ((some y2).map ρ)).run P w = .ok (sliced p 0 j.toNat j.toNat sz) w := by
  simp only [hx, hy, hy2, Option.map_some, Option.map_none]
  rw [run_sliceAt_slice _ _ _ _ _ _ (by rw [e1]; exact ht), run_slice_any _ _ _ _ _ (by rw [e1]; exact ht), bounds_hm h0 (Int.le_refl _) (by omega), e1]
  simp only [Result.andThen_ok, hi.size]; rfl
 exact OK.val (run_v hrun) hK
theorem o_appendL {x y : Operand} {t e : TypeId} {z v u : Value} {sz by_ n m : Nat} {cs ds : List Value} {hs L : List Hp} (ht : P.underlying t = some (.slice e)) (hi : TI P e z sz by_)
  (hz : z.cells.size = sz) (hsz : 0 < sz) (hx : ρ x = v) (ho : OwnL e sz v n cs hs) (hy : ρ y = u) (hu : Sl L sz u m ds) (H : Has E w (hs :: ss)) (hL : L ⊆ ss.flatten)
  (h1 : ∀ u ∈ ds, u.oneCell' = true) (hb : (n + m) * by_ ≤ 140737488355328) (h63 : n + m ≤ 9223372036854775807)
  (hK : ∀ v' hs' w', OwnL e sz v' (n + m) (cs ++ ds) hs' → Has E w' (hs' :: ss) → K v' w') :
  OK P ⟨dst, .call ⟨.builtin .append, #[x, y], #[t, t]⟩, T, pos, after, g⟩ ρ w K := by
 rcases ho with ho | ho
 · exact o_append ht hi hz hsz hx ho hy hu H hL h1 hb h63 fun v' hs' w' h => hK v' hs' w' (.inl h)
 have ho2 : OwnL e sz v n cs hs := .inr ho
 have hrow := ho2.sl
 obtain ⟨hlc, b, cur, rfl, rfl, hcm, htk⟩ := ho
 obtain ⟨i, hi, hiz, hisz, hiby⟩ := hi
 obtain ⟨q, cap, rfl, hnc, hcm2, hl, hq⟩ := hu
 by_cases hm : m = 0
 ·
  subst hm
  have hds : ds = [] := by simpa using hl
  subst hds
  refine zV (v := .slice (some ⟨b, 0, none⟩) n n) (w' := w) ?_ (hK _ _ w (by simpa using ho2) H)
  cases q <;> simp [hx, hy, builtin, Builtin.append_, run_underlying ht, sizeOf, typeInfo, hi, Builtin.lenOf, Builtin.firstCells, loadCells, loadCellsFrom, storeCells]
 ·
  obtain ⟨b2, off2, rfl, hc2⟩ := hq (by omega)
  have hcA : CellsAt [Hp.one b (.cells cur e (0, 0))] b 0 cs := CellsAt.one (by rw [List.drop_zero, hlc]; exact htk)
  obtain ⟨v', w', hr, ho', hg⟩ := run_append_arg_grows (P := P) w t T e i z sz by_ ht hi hiz hisz hiby hz hsz ⟨b, 0, none⟩ n n cs hlc (fun j u hj => by rw [add_lit]; exact H.cell (fun _ hx => List.mem_append_left _ hx) hcA hj)
   ⟨b2, off2, none⟩ m cap ds hl (fun j u hj => by rw [add_lit]; exact H.cell (fun _ hx => List.mem_append_right _ (hL hx)) hc2 hj) (by omega) (by simpa [maxLen] using h63) hb
  obtain ⟨hl', ⟨_, h0⟩ | ⟨k, cap'', cur', rfl, hk, hbk, g1, g2, g3, g4⟩⟩ := ho'
  · omega
  ·
   have H0 : Has E w ss := H.drop
   have hH : Has E w' ([Hp.one k (.cells cur' e (0, 0))] :: ss) := by
    refine Has0.write (an := []) (an' := [Hp.one k (.cells cur' e (0, 0))]) (hs := ss.flatten) H0 hg.os hg.tape hg.output (by simp) (fun j _ => ?_) ?_ (fun j hj _ => hg.block j hj (fun e => by cases e))
    ·
     by_cases hjk : j = k
     · subst hjk; exact .inr hk
     ·
      refine .inl fun h hh => ?_
      rw [List.mem_singleton.1 hh]; unfold Hp.one; rw [if_neg hjk]
    ·
     intro h hh j o hj
     rw [List.mem_singleton.1 hh] at hj
     obtain ⟨rfl, rfl⟩ := Hp.one_some hj
     exact hbk
   refine zV (v := .slice (some ⟨k, 0, none⟩) (n + m) cap'') (w' := w') ?_ (hK _ [Hp.one k (.cells cur' e (0, 0))] w' (.inl ⟨hl', .inr ⟨k, cap'', cur', rfl, rfl, g1, g2, g3, g4⟩⟩) hH)
   simp only [hx, hy, builtin, List.map_toArray, List.map_cons, List.map_nil, Sem.run_bind, hr, Result.andThen_ok, Sem.run_pure]
end ops
end Go.Q
namespace Go.Q
theorem OwnL.app {α : Type} {f : α → Value} {e : TypeId} {v : Value} {a b : List α} {hs : List Hp} (h : OwnL e 1 v (a.length + b.length) (a.map f ++ b.map f) hs) : OwnL e 1 v (a ++ b).length ((a ++ b).map f) hs := by rw [List.length_append, List.map_append]; exact h
theorem OwnL.appF {α : Type} {f : α → List Value} {sz : Nat} {e : TypeId} {v : Value} {a b : List α} {hs : List Hp} (h : OwnL e sz v (a.length + b.length) (a.flatMap f ++ b.flatMap f) hs) : OwnL e sz v (a ++ b).length ((a ++ b).flatMap f) hs := by rw [List.length_append, List.flatMap_append]; exact h
end Go.Q
namespace Go.Q
structure LEnt where
 gsn : Int
 at_ : Int
 data : Bs
deriving DecidableEq
def enC (e : LEnt) : List Value := [iV e.gsn, iV e.at_, sV e.data]
theorem enC_len (e : LEnt) : (enC e).length = 3 := rfl
theorem one_enC (l : List LEnt) : ∀ u ∈ l.flatMap enC, u.oneCell' = true := one_flat (fun p u hu => by
 simp only [enC, List.mem_cons, List.not_mem_nil, or_false] at hu
 rcases hu with rfl | rfl | rfl <;> rfl) l
structure StmS where
 seq : Int
 ep : Int
 hcut : Int
 st : Int
 mrk : Int
 l : List LEnt
 tail : Int
 flushed : Int
 res : Int
 cut : Bool
 err : Int
def StmS.hd (v : StmS) : Hd := ⟨v.seq, v.ep, v.hcut, v.st, v.mrk⟩
def lastV (v : StmS) : Int := match v.l[v.l.length - 1]? with
 | none => v.mrk
 | some e => max v.mrk e.gsn
theorem last_none {v : StmS} (h : v.l.length = 0) : lastV v = v.mrk := by
 unfold lastV
 rw [List.getElem?_eq_none (by omega)]
theorem last_some {v : StmS} {e : LEnt} (h : v.l[v.l.length - 1]? = some e) : lastV v = max v.mrk e.gsn := by
 unfold lastV
 rw [h]
def freeV (n : Int) (v : StmS) : Int := n * 64 - (v.tail - v.st) - v.res
def readyE (v : StmS) : Int := if v.err ≠ 0 then v.err else if v.cut = false then 12 else 0
def mayL (v : StmS) (g : Int) (size : Int) : Int := if readyE v ≠ 0 then readyE v else if g ≤ lastV v ∨ 4611686018427387903 < g ∨ 200 < size then 1 else 0
def layS (v : StmS) (g : Int) (s : Bs) : StmS := { v with l := v.l ++ [⟨g, v.tail, s⟩], tail := v.tail + (25 + (s.length : Int)) }
def apE (n : Int) (v : StmS) (g : Int) (s : Bs) : Int := if mayL v g (s.length : Int) ≠ 0 then mayL v g (s.length : Int) else if freeV n v < 25 + (s.length : Int) then 5 else 0
def apS (n : Int) (v : StmS) (g : Int) (s : Bs) : StmS := if apE n v g s = 0 then layS v g s else v
def RisesE (l : List LEnt) : Prop := l.Pairwise fun a b => a.gsn < b.gsn
instance (l : List LEnt) : Decidable (RisesE l) := inferInstanceAs (Decidable (l.Pairwise fun a b => a.gsn < b.gsn))
def cmpI (a b : Int) : Int := if a < b then -1 else if b < a then 1 else 0
theorem cmpI_neg {a b : Int} : cmpI a b < 0 ↔ a < b := by
 unfold cmpI
 split
 ·
  constructor
  · intro _; assumption
  · intro _; decide
 ·
  split
  ·
   constructor
   · intro h; exact absurd h (by decide)
   · intro h; omega
  ·
   constructor
   · intro h; exact absurd h (by decide)
   · intro h; omega
theorem cmpI_zero {a b : Int} : cmpI a b = 0 ↔ a = b := by
 unfold cmpI
 split
 ·
  constructor
  · intro h; exact absurd h (by decide)
  · intro h; omega
 ·
  split
  ·
   constructor
   · intro h; exact absurd h (by decide)
   · intro h; omega
  ·
   constructor
   · intro _; omega
   · intro _; rfl
def posE (l : List LEnt) (g : Int) : Int := ((l.filter fun e => decide (e.gsn < g)).length : Int)
def hasE (l : List LEnt) (g : Int) : Bool := l.any fun e => decide (e.gsn = g)
theorem posE_le (l : List LEnt) (g : Int) : 0 ≤ posE l g ∧ posE l g ≤ l.length := by
 unfold posE
 have := List.length_filter_le (fun e : LEnt => decide (e.gsn < g)) l
 omega
theorem posE_at {l : List LEnt} {g : Int} {i : Nat} (hi : i ≤ l.length) (hlo : ∀ a ∈ l.take i, a.gsn < g) (hhi : ∀ a ∈ l.drop i, ¬ a.gsn < g) : posE l g = i := by
 unfold posE
 have e : l.filter (fun c => decide (c.gsn < g)) = l.take i := by
  have h1 := List.filter_eq_self.2 (fun a ha => decide_eq_true (hlo a ha))
  have h2 := List.filter_eq_nil_iff.2 (fun a ha => by simpa using hhi a ha : ∀ a ∈ l.drop i, ¬ (decide (a.gsn < g) = true))
  calc l.filter (fun c => decide (c.gsn < g)) = (l.take i ++ l.drop i).filter (fun c => decide (c.gsn < g)) := by rw [List.take_append_drop]
   _ = _ := by rw [List.filter_append, h1, h2, List.append_nil]
 rw [e, List.length_take, Nat.min_eq_left hi]
theorem lo_stepE {l : List LEnt} {g : Int} {m : Nat} {a : LEnt} (hs : RisesE l) (hx : l[m]? = some a) (h : a.gsn < g) : ∀ b ∈ l.take (m + 1), b.gsn < g := by
 rw [zS hx]
 intro b hb
 rcases List.mem_append.1 hb with e | e
 ·
  obtain ⟨j, hj⟩ := List.mem_iff_getElem?.1 e
  rw [List.getElem?_take] at hj
  split at hj
  ·
   obtain ⟨h1, h2⟩ := List.getElem?_eq_some_iff.1 hj
   obtain ⟨h3, h4⟩ := List.getElem?_eq_some_iff.1 hx
   have := List.pairwise_iff_getElem.1 hs j m h1 h3 (by assumption)
   rw [h2, h4] at this
   omega
  · cases hj
 · rw [List.mem_singleton.1 e]; exact h
theorem hi_stepE {l : List LEnt} {g : Int} {m : Nat} {a : LEnt} (hs : RisesE l) (hx : l[m]? = some a) (h : ¬ a.gsn < g) : ∀ b ∈ l.drop m, ¬ b.gsn < g := by
 intro b hb hlt
 obtain ⟨j, hj⟩ := List.mem_iff_getElem?.1 hb
 rw [List.getElem?_drop] at hj
 obtain ⟨h1, h2⟩ := List.getElem?_eq_some_iff.1 hj
 obtain ⟨h3, h4⟩ := List.getElem?_eq_some_iff.1 hx
 rcases Nat.eq_zero_or_pos j with e | e
 ·
  subst e
  rw [Nat.add_zero, hx] at hj; cases hj; exact h hlt
 ·
  have := List.pairwise_iff_getElem.1 hs m (m + j) h3 h1 (by omega)
  rw [h2, h4] at this
  omega
theorem hasE_yes {l : List LEnt} {g : Int} {i : Nat} {a : LEnt} (hx : l[i]? = some a) (h : a.gsn = g) : hasE l g = true := by
 unfold hasE; exact List.any_eq_true.2 ⟨a, List.mem_of_getElem? hx, decide_eq_true h⟩
theorem hasE_no {l : List LEnt} {g : Int} {i : Nat} (hs : RisesE l) (hlo : ∀ a ∈ l.take i, a.gsn < g) (hhi : ∀ a ∈ l.drop i, ¬ a.gsn < g) (h : ∀ a, l[i]? = some a → a.gsn ≠ g) : hasE l g = false := by
 unfold hasE
 rw [List.any_eq_false]
 intro b hb
 rw [decide_eq_true_iff]
 intro e
 rw [← List.take_append_drop i l] at hb
 rcases List.mem_append.1 hb with q | q
 · have := hlo b q; omega
 ·
  obtain ⟨j, hj⟩ := List.mem_iff_getElem?.1 q
  rw [List.getElem?_drop] at hj
  rcases Nat.eq_zero_or_pos j with z | z
  · subst z; rw [Nat.add_zero] at hj; exact h b hj e
  ·
   obtain ⟨h1, h2⟩ := List.getElem?_eq_some_iff.1 hj
   have h3 : i < l.length := by omega
   have h4 := List.pairwise_iff_getElem.1 hs i (i + j) h3 h1 (by omega)
   rw [h2, e] at h4
   exact hhi l[i] (by rw [List.drop_eq_getElem_cons h3]; exact List.mem_cons_self ..) h4
def LaidE : Int → List LEnt → Int → Prop
 | a, [], t => t = a
 | a, e :: l, t => e.at_ = a ∧ LaidE (a + (25 + (e.data.length : Int))) l t
theorem LaidE.snoc : ∀ {l : List LEnt} {a t : Int} (_ : LaidE a l t) (g : Int) (s : Bs), LaidE a (l ++ [⟨g, t, s⟩]) (t + (25 + (s.length : Int)))
 | [], a, t, h, g, s => by
  have e : t = a := h
  exact ⟨e, by rw [e]; rfl⟩
 | e :: l, a, t, h, g, s => ⟨h.1, LaidE.snoc h.2 g s⟩
theorem LaidE.le : ∀ {l : List LEnt} {a t : Int} (_ : LaidE a l t), a + 25 * (l.length : Int) ≤ t
 | [], a, t, h => by have e : t = a := h; simp; omega
 | e :: l, a, t, h => by
  have := LaidE.le h.2
  simp only [List.length_cons]; omega
theorem LaidE.at : ∀ {l : List LEnt} {a t : Int} (_ : LaidE a l t) {n : Nat} {x : LEnt} (_ : l[n]? = some x), LaidE a (l.take n) x.at_ ∧ LaidE x.at_ (l.drop n) t
 | [], _, _, _, n, x, hx => by simp at hx
 | e :: l, a, t, h, 0, x, hx => by
  have hx : e = x := by simpa using hx
  subst hx
  exact ⟨h.1, by rw [h.1]; exact h⟩
 | e :: l, a, t, h, n + 1, x, hx => by
  have := LaidE.at h.2 (n := n) (x := x) (by simpa using hx)
  exact ⟨⟨h.1, this.1⟩, this.2⟩
structure StmOk (n : Int) (v : StmS) : Prop where
 num : 1 ≤ n ∧ n ≤ 4094
 mrk : 0 ≤ v.mrk ∧ v.mrk ≤ 4611686018427387903
 st : 0 ≤ v.st ∧ v.st ≤ 4611686018427387903
 cut : 0 ≤ v.hcut ∧ v.hcut ≤ 4611686018427387903
 ep : 0 ≤ v.ep ∧ v.ep ≤ 2147483647
 seq : 0 ≤ v.seq ∧ v.seq ≤ 4611686018427387903
 tail : v.tail ≤ v.st + n * 64
 res : 0 ≤ v.res ∧ v.res ≤ n * 64 - (v.tail - v.st)
 lay : LaidE v.st v.l v.tail
 gsn : ∀ e ∈ v.l, 0 ≤ e.gsn ∧ e.gsn ≤ 4611686018427387903
 dat : ∀ e ∈ v.l, e.data.length ≤ 200
 rise : RisesE v.l
 fl : 0 ≤ v.flushed ∧ v.flushed ≤ v.l.length
theorem StmOk.le {n : Int} {v : StmS} (h : StmOk n v) : v.st ≤ v.tail ∧ v.l.length ≤ 100000 := by
 have := h.lay.le
 have := h.tail
 have := h.num
 omega
theorem last_le {n : Int} {v : StmS} (h : StmOk n v) : 0 ≤ lastV v ∧ lastV v ≤ 4611686018427387903 ∧ v.mrk ≤ lastV v := by
 have hm := h.mrk
 unfold lastV
 split
 · omega
 ·
  rename_i e he
  have := h.gsn e (List.mem_of_getElem? he)
  omega
end Go.Q
namespace Go.Q
end Go.Q
namespace Go.Q
abbrev yS (b : Nat) (v : StmS) (d a : Nat) (x : Value) : List Hp := [Hp.one b (.cells #[(.int .i64 v.seq), (.int .i64 v.ep), (.int .i64 v.hcut), (.int .i64 v.st), (.int .i64 v.mrk), (.pointer (some ⟨d, 0, none⟩)), (.pointer (some ⟨a, 0, none⟩)), x, (.int .i64 v.tail), (.int .i64 v.flushed), (.int .i64 v.res), (.bool v.cut), (.int .i64 v.err)] 175 (0, 0))]
end Go.Q
namespace Go.Q
theorem rd_on {p : Pw} (ho : p.off = false) {la : List Bs} {lo : List (Int × Bs)} {n : Int} (hn : inS n la.length) : readS p la lo n = nowAt la lo n.toNat ∧ readE p la n = 0 := by
 unfold readS readE nowAt
 rw [ho, if_pos hn, if_pos hn]
 refine ⟨?_, rfl⟩
 rw [if_neg (by decide), show ((n.toNat : Nat) : Int) = n from by obtain ⟨h0, h1⟩ := hn; omega]
 cases getB lo n <;> rfl
def asetD : List Pc → Dv → Bs → Int × Dv
 | [], d, _ => (0, d)
 | p :: ps, d, all => if d.wrE p.sec (putA1 d.la d.lo p all) = 0 then asetD ps (d.wr p.sec (putA1 d.la d.lo p all)) (all.drop (p.upto - p.frm).toNat) else (d.wrE p.sec (putA1 d.la d.lo p all), d.wr p.sec (putA1 d.la d.lo p all))
def mayA (n at_ size : Int) : Prop := 0 ≤ at_ ∧ at_ ≤ 4611686018427387904 ∧ 0 ≤ size ∧ size ≤ n * 64
instance (n at_ size : Int) : Decidable (mayA n at_ size) := inferInstanceAs (Decidable (_ ∧ _))
def ringP (fr n at_ size : Int) : List Pc := allP fr (n * 64) (at_ % (n * 64)) size
def setA (d : Dv) (fr n at_ : Int) (all : Bs) : Int × Dv := if mayA n at_ (all.length : Int) then (if d.p.off = true then (6, d) else asetD (ringP fr n at_ (all.length : Int)) d all) else (1, d)
section
variable {ps : List Pc} {j : Nat} {x : Pc} {d dc : Dv} {all rest : Bs}
theorem aset_go (hx : ps[j]? = some x) (hst : asetD ps d all = asetD (ps.drop j) dc rest) (h0 : dc.wrE x.sec (putA1 dc.la dc.lo x rest) = 0) : asetD ps d all = asetD (ps.drop (j + 1)) (dc.wr x.sec (putA1 dc.la dc.lo x rest)) (rest.drop (x.upto - x.frm).toNat) := by
 rw [hst, drop_of hx, asetD, if_pos h0]
theorem aset_stop (hx : ps[j]? = some x) (hst : asetD ps d all = asetD (ps.drop j) dc rest) (h0 : dc.wrE x.sec (putA1 dc.la dc.lo x rest) ≠ 0) : asetD ps d all = (dc.wrE x.sec (putA1 dc.la dc.lo x rest), dc.wr x.sec (putA1 dc.la dc.lo x rest)) := by
 rw [hst, drop_of hx, asetD, if_neg h0]
theorem aset_end (hst : asetD ps d all = asetD (ps.drop j) dc rest) (hj : ps.length ≤ j) : asetD ps d all = (0, dc) := by
 rw [hst, List.drop_of_length_le hj, asetD]
end
theorem few_aset : ∀ (ps : List Pc) (d : Dv) (all : Bs) {k : Nat}, Few d.p k → Few (asetD ps d all).2.p (k + ps.length)
 | [], _, _, _, h => h
 | p :: ps, d, all, k, h => by
  have h1 : Few (d.wr p.sec (putA1 d.la d.lo p all)).p (k + 1) := h.use
  rw [asetD]
  split
  · exact (few_aset ps _ _ h1).mono (by rw [List.length_cons]; omega)
  · exact h1.mono (by rw [List.length_cons]; omega)
theorem aset_la : ∀ (ps : List Pc) (d : Dv) (all : Bs), (asetD ps d all).2.la = d.la
 | [], _, _ => rfl
 | p :: ps, d, all => by
  rw [asetD]
  split
  · rw [aset_la ps]; rfl
  · rfl
theorem aset_lo : ∀ (ps : List Pc) (d : Dv) (all : Bs), LoOk d.lo d.la.length → LoOk (asetD ps d all).2.lo d.la.length
 | [], _, _, h => h
 | p :: ps, d, all, h => by
  have h1 : LoOk (d.wr p.sec (putA1 d.la d.lo p all)).lo d.la.length := h.write _ _ _
  rw [asetD]
  split
  · exact aset_lo ps _ _ h1
  · exact h1
theorem pieces_al {fr n : Int} (hn : 0 < n) : ∀ (f : Nat) (at_ size : Int), 0 ≤ at_ → at_ % 64 = 0 → ((piecesS fr (n * 64) f at_ size).length : Int) * 64 ≤ max size 0 + 63
 | 0, _, _, _, _ => by simp only [piecesS, List.length_nil]; omega
 | f + 1, at_, size, h0, ha => by
  rw [piecesS]
  split
  · simp only [List.length_nil]; omega
  ·
   obtain ⟨d1, d2, d3, d4, d5⟩ := piece1_d (fr := fr) h0 (size := size) (by omega)
   have e : (piece1 fr at_ size).upto - (piece1 fr at_ size).frm = min size 64 := by
    unfold piece1; simp only [ha]; omega
   simp only [List.length_cons]
   rw [e]
   by_cases hs : size ≤ 64
   ·
    have hz : piecesS fr (n * 64) f ((at_ + min size 64) % (n * 64)) (size - min size 64) = [] := by
     cases f with
     | zero => rfl
     | succ f => rw [piecesS, if_pos (by omega)]
    rw [hz]; simp only [List.length_nil]; omega
   ·
    have hm : (at_ + min size 64) % (n * 64) % 64 = 0 := by
     rw [Int.emod_emod_of_dvd _ ⟨n, by omega⟩]; omega
    have := pieces_al (fr := fr) hn f ((at_ + min size 64) % (n * 64)) (size - min size 64) (Int.emod_nonneg _ (by omega)) hm
    omega
theorem ring_count {fr n at_ size : Int} (hn : 1 ≤ n) (hs : size ≤ n * 64) : (ringP fr n at_ size).length ≤ n.toNat + 1 := by
 unfold ringP allP
 have h0 : 0 ≤ at_ % (n * 64) := Int.emod_nonneg _ (by omega)
 cases hz : size.toNat with
 | zero => simp [piecesS]
 | succ f =>
  rw [piecesS, if_neg (by omega)]
  obtain ⟨d1, d2, d3, d4, d5⟩ := piece1_d (fr := fr) h0 (size := size) (by omega)
  simp only [List.length_cons]
  generalize hd : (piece1 fr (at_ % (n * 64)) size).upto - (piece1 fr (at_ % (n * 64)) size).frm = dd at *
  have e : dd = min size (64 - at_ % (n * 64) % 64) := by
   rw [← hd]; unfold piece1; simp only; omega
  by_cases hq : size - dd ≤ 0
  ·
   have : piecesS fr (n * 64) f ((at_ % (n * 64) + dd) % (n * 64)) (size - dd) = [] := by
    cases f with
    | zero => rfl
    | succ f => rw [piecesS, if_pos hq]
   rw [this]; simp only [List.length_nil]; omega
  ·
   have hm : (at_ % (n * 64) + dd) % (n * 64) % 64 = 0 := by
    rw [Int.emod_emod_of_dvd _ ⟨n, by omega⟩]; omega
   have := pieces_al (fr := fr) (n := n) (by omega) f ((at_ % (n * 64) + dd) % (n * 64)) (size - dd) (Int.emod_nonneg _ (by omega)) hm
   omega
theorem few_setA {d : Dv} {fr n at_ : Int} {all : Bs} {k : Nat} (h : Few d.p k) (hn : 1 ≤ n) : Few (setA d fr n at_ all).2.p (k + (n.toNat + 1)) := by
 unfold setA
 split
 ·
  rename_i hm
  split
  · exact h.mono (by omega)
  · exact (few_aset _ _ _ h).mono (by have := ring_count (fr := fr) (at_ := at_) hn hm.2.2.2; omega)
 · exact h.mono (by omega)
theorem setA_la {d : Dv} {fr n at_ : Int} {all : Bs} : (setA d fr n at_ all).2.la = d.la := by
 unfold setA
 split
 ·
  split
  · rfl
  · exact aset_la _ _ _
 · rfl
theorem setA_lo {d : Dv} {fr n at_ : Int} {all : Bs} (h : LoOk d.lo d.la.length) : LoOk (setA d fr n at_ all).2.lo d.la.length := by
 unfold setA
 split
 ·
  split
  · exact h
  · exact aset_lo _ _ _ h
 · exact h
def Dv.syN (d : Dv) : Dv := ⟨useS d.p, if useB d.p = true then nowS d.la d.lo else d.la, syncO d.p d.lo⟩
theorem sy_eq {d : Dv} (h : LoOk d.lo d.la.length) : d.sy = d.syN := by
 unfold Dv.sy Dv.syN
 congr 1
 unfold syncA
 split
 · exact now_sync h
 · rfl
def svD (d : Dv) (x : Int) (h : Hd) : Int × Hd × Dv :=
 if ¬ svOk h then (1, hdZ, d) else if thE d.p d.la.length x ≠ 0 then (thE d.p d.la.length x, hdZ, d)
 else if d.wrE (svN x h) (hdL (hdUp h)) ≠ 0 then (d.wrE (svN x h) (hdL (hdUp h)), hdZ, d.wr (svN x h) (hdL (hdUp h)))
 else if (d.wr (svN x h) (hdL (hdUp h))).syE ≠ 0 then ((d.wr (svN x h) (hdL (hdUp h))).syE, hdZ, (d.wr (svN x h) (hdL (hdUp h))).syN)
 else (0, hdUp h, (d.wr (svN x h) (hdL (hdUp h))).syN)
theorem few_svD {d : Dv} {x : Int} {h : Hd} {k : Nat} (hf : Few d.p k) : Few (svD d x h).2.2.p (k + 2) := by
 have h1 : Few (d.wr (svN x h) (hdL (hdUp h))).p (k + 1) := hf.use
 have h2 : Few (d.wr (svN x h) (hdL (hdUp h))).syN.p (k + 2) := h1.use
 unfold svD
 split
 · exact hf.mono (by omega)
 split
 · exact hf.mono (by omega)
 split
 · exact h1.mono (by omega)
 split
 · exact h2
 · exact h2
theorem syN_len (d : Dv) : d.syN.la.length = d.la.length := by
 show (if useB d.p = true then nowS d.la d.lo else d.la).length = _
 split
 · exact now_len _ _
 · rfl
theorem svD_len {d : Dv} {x : Int} {h : Hd} : (svD d x h).2.2.la.length = d.la.length := by
 have h2 : (d.wr (svN x h) (hdL (hdUp h))).syN.la.length = d.la.length := by rw [syN_len]; rfl
 unfold svD
 split
 · rfl
 split
 · rfl
 split
 · rfl
 split
 · exact h2
 · exact h2
theorem syN_lo {d : Dv} (h : LoOk d.lo d.la.length) : LoOk d.syN.lo d.syN.la.length := by
 rw [syN_len]; exact h.sync _
theorem svD_lo {d : Dv} {x : Int} {h : Hd} (hl : LoOk d.lo d.la.length) : LoOk (svD d x h).2.2.lo (svD d x h).2.2.la.length := by
 have h1 : LoOk (d.wr (svN x h) (hdL (hdUp h))).lo (d.wr (svN x h) (hdL (hdUp h))).la.length := hl.write _ _ _
 unfold svD
 split
 · exact hl
 split
 · exact hl
 split
 · exact h1
 split
 · exact syN_lo h1
 · exact syN_lo h1
def fmtG (m : Nat) : Grp := (List.range m).map fun i : Nat => ((i : Int), ([] : Bs))
theorem fmtG_at {m i : Nat} (h : i < m) : (fmtG m)[i]? = some ((i : Int), []) := by
 unfold fmtG
 rw [List.getElem?_map, List.getElem?_range h]; rfl
theorem fmtG_len (m : Nat) : (fmtG m).length = m := by unfold fmtG; simp
section
variable {g : Grp} {i : Nat} {q : Int × Bs} {d dc : Dv}
theorem wrs_go (hx : g[i]? = some q) (hst : wrs d g = wrs dc (g.drop i)) (h0 : dc.wrE q.1 q.2 = 0) : wrs d g = wrs (dc.wr q.1 q.2) (g.drop (i + 1)) := by
 rw [hst, drop_of hx]
 obtain ⟨n, s⟩ := q
 rw [wrs, if_pos h0]
theorem wrs_stop (hx : g[i]? = some q) (hst : wrs d g = wrs dc (g.drop i)) (h0 : dc.wrE q.1 q.2 ≠ 0) : wrs d g = (dc.wrE q.1 q.2, dc.wr q.1 q.2) := by
 rw [hst, drop_of hx]
 obtain ⟨n, s⟩ := q
 rw [wrs, if_neg h0]
theorem wrs_last (hst : wrs d g = wrs dc (g.drop i)) (hi : g.length ≤ i) : wrs d g = (0, dc) := by
 rw [hst, List.drop_of_length_le hi, wrs]
end
def fmS (d : Dv) : Int × Hd × Dv := if (wrs d (fmtG d.la.length)).1 ≠ 0 then ((wrs d (fmtG d.la.length)).1, hdZ, (wrs d (fmtG d.la.length)).2) else svD (wrs d (fmtG d.la.length)).2 0 ⟨0, 1, 0, 0, 0⟩
def stays (v : StmS) (e : Int) : StmS := if e = 6 then { v with err := 6 } else v
def StmS.put (v : StmS) (h : Hd) : StmS := { v with seq := h.seq, ep := h.ep, hcut := h.cut, st := h.st, mrk := h.mrk }
def saveS (d : Dv) (v : StmS) (h : Hd) : Int × Dv × StmS := ((svD d 0 h).1, (svD d 0 h).2.2, stays (if (svD d 0 h).1 = 0 then v.put (svD d 0 h).2.1 else v) (svD d 0 h).1)
def frOf (ep : Int) (e : LEnt) : Fr := ⟨ep, e.at_, e.gsn, e.data⟩
def layB (ep : Int) (l : List LEnt) : List Bs := l.map fun e => makeS (frOf ep e)
def fl1 (d : Dv) (v : StmS) (a : Int × Dv) : Int × Dv × StmS :=
 if a.1 ≠ 0 then (a.1, a.2, stays v a.1) else if a.2.syE ≠ 0 then (a.2.syE, a.2.syN, stays v a.2.syE) else (0, a.2.syN, { v with flushed := v.l.length })
def flL (n : Int) (d : Dv) (v : StmS) : Int × Dv × StmS := match v.l[v.flushed.toNat]? with
 | none => (0, d, v)
 | some x => fl1 d v (setA d 2 n x.at_ (layB v.ep (v.l.drop v.flushed.toNat)).flatten)
def fl2 (mark : Int) (r : Int × Dv × StmS) : Int × Dv × StmS := if r.1 ≠ 0 then r else if mark = r.2.2.mrk then (0, r.2.1, r.2.2) else saveS r.2.1 r.2.2 { r.2.2.hd with mrk := mark }
def flS (n : Int) (d : Dv) (v : StmS) (mark : Int) : Int × Dv × StmS :=
 if readyE v ≠ 0 then (readyE v, d, v) else if mark < lastV v ∨ 4611686018427387903 < mark then (1, d, v) else fl2 mark (flL n d v)
def cutTail (v : StmS) (k : Nat) : Int := match v.l[k]? with
 | none => v.tail
 | some x => x.at_
def ctH (v : StmS) (last : Int) (k : Nat) : Hd := ⟨v.seq, v.ep + 1, cutTail v k, v.st, last⟩
def ctS (d : Dv) (v : StmS) (last : Int) : Int × Dv × StmS :=
 if v.err ≠ 0 then (v.err, d, v) else if v.cut = true then (12, d, v) else if last < 0 ∨ 4611686018427387903 < last then (1, d, v) else if 2147483647 ≤ v.ep then (3, d, v)
 else if (saveS d v (ctH v last (posE v.l (last + 1)).toNat)).1 ≠ 0 then saveS d v (ctH v last (posE v.l (last + 1)).toNat)
 else (0, (saveS d v (ctH v last (posE v.l (last + 1)).toNat)).2.1, { (saveS d v (ctH v last (posE v.l (last + 1)).toNat)).2.2 with l := (saveS d v (ctH v last (posE v.l (last + 1)).toNat)).2.2.l.take (posE v.l (last + 1)).toNat, tail := cutTail v (posE v.l (last + 1)).toNat, flushed := posE v.l (last + 1), cut := true })
def fmV (h : Hd) : StmS := ⟨h.seq, h.ep, h.cut, h.st, h.mrk, [], 0, 0, 0, true, 0⟩
def entF (f : Fr) : LEnt := ⟨f.gsn, f.pl, f.data⟩
def ringB (d : Dv) (n at_ : Int) : Bs := getP d.la d.lo (ringP 2 n at_ (n * 64))
def opC (d : Dv) (n : Int) : List Fr × Int := chainS (ldH d.p d.la 0).ep (ldH d.p d.la 0).cut ((ringB d n (ldH d.p d.la 0).st).length + 1) (ringB d n (ldH d.p d.la 0).st) (ldH d.p d.la 0).st (-1)
def opE (d : Dv) (n : Int) : Int := if ldE d.p d.la 0 ≠ 0 then ldE d.p d.la 0 else if (ldH d.p d.la 0).ep = 0 ∨ (ldH d.p d.la 0).cut < (ldH d.p d.la 0).st ∨ (opC d n).2 < (ldH d.p d.la 0).cut then 9 else 0
def opS (d : Dv) (n : Int) : StmS := ⟨(ldH d.p d.la 0).seq, (ldH d.p d.la 0).ep, (ldH d.p d.la 0).cut, (ldH d.p d.la 0).st, (ldH d.p d.la 0).mrk, (opC d n).1.map entF, (opC d n).2, ((opC d n).1.length : Int), 0, false, 0⟩
end Go.Q
namespace Go.Q
theorem wr_zero_on {d : Dv} {n : Int} {s : Bs} (h : d.wrE n s = 0) : (d.wr n s).p.off = false := by
 unfold Dv.wrE writeE at h
 split at h
 · rename_i hb; exact useB_on hb
 · cases h
section
variable {d : Dv} {x : Int} {h : Hd}
theorem svD_bad (h1 : ¬ svOk h) : svD d x h = (1, hdZ, d) := if_pos h1
theorem svD_th (h1 : svOk h) (h2 : thE d.p d.la.length x ≠ 0) : svD d x h = (thE d.p d.la.length x, hdZ, d) := by
 unfold svD; rw [if_neg (fun g => g h1), if_pos h2]
theorem svD_w (h1 : svOk h) (h2 : thE d.p d.la.length x = 0) (h3 : d.wrE (svN x h) (hdL (hdUp h)) ≠ 0) : svD d x h = (d.wrE (svN x h) (hdL (hdUp h)), hdZ, d.wr (svN x h) (hdL (hdUp h))) := by
 unfold svD; rw [if_neg (fun g => g h1), if_neg (fun g => g h2), if_pos h3]
theorem svD_s (h1 : svOk h) (h2 : thE d.p d.la.length x = 0) (h3 : d.wrE (svN x h) (hdL (hdUp h)) = 0) (h4 : (d.wr (svN x h) (hdL (hdUp h))).syE ≠ 0) : svD d x h = ((d.wr (svN x h) (hdL (hdUp h))).syE, hdZ, (d.wr (svN x h) (hdL (hdUp h))).syN) := by
 unfold svD; rw [if_neg (fun g => g h1), if_neg (fun g => g h2), if_neg (fun g => g h3), if_pos h4]
theorem svD_ok (h1 : svOk h) (h2 : thE d.p d.la.length x = 0) (h3 : d.wrE (svN x h) (hdL (hdUp h)) = 0) (h4 : (d.wr (svN x h) (hdL (hdUp h))).syE = 0) : svD d x h = (0, hdUp h, (d.wr (svN x h) (hdL (hdUp h))).syN) := by
 unfold svD; rw [if_neg (fun g => g h1), if_neg (fun g => g h2), if_neg (fun g => g h3), if_neg (fun g => g h4)]
end
end Go.Q
namespace Go.Q
theorem mayL_zero {v : StmS} {g size : Int} (h : mayL v g size = 0) : readyE v = 0 ∧ lastV v < g ∧ g ≤ 4611686018427387903 ∧ size ≤ 200 := by
 unfold mayL at h
 split at h
 · rename_i h1; exact absurd h h1
 ·
  rename_i h1
  split at h
  · cases h
  · exact ⟨Classical.not_not.1 h1, by omega, by omega, by omega⟩
end Go.Q
namespace Go.Q
theorem setA_lk {d : Dv} {fr n at_ : Int} {all : Bs} (h : LoOk d.lo d.la.length) : LoOk (setA d fr n at_ all).2.lo (setA d fr n at_ all).2.la.length := by rw [setA_la]; exact setA_lo h
theorem few_saveS {d : Dv} {v : StmS} {h : Hd} {k : Nat} (hf : Few d.p k) : Few (saveS d v h).2.1.p (k + 2) := few_svD hf
theorem saveS_len {d : Dv} {v : StmS} {h : Hd} : (saveS d v h).2.1.la.length = d.la.length := svD_len
theorem saveS_lo {d : Dv} {v : StmS} {h : Hd} (hl : LoOk d.lo d.la.length) : LoOk (saveS d v h).2.1.lo (saveS d v h).2.1.la.length := svD_lo hl
theorem dvwr_len {d : Dv} {n : Int} {s : Bs} : (d.wr n s).la.length = d.la.length := rfl
theorem flL_len {n : Int} {d : Dv} {v : StmS} : (flL n d v).2.1.la.length = d.la.length := by
 unfold flL
 split
 · rfl
 ·
  unfold fl1
  split
  · rw [setA_la]
  ·
   split
   · show (Dv.syN _).la.length = _; rw [syN_len, setA_la]
   · show (Dv.syN _).la.length = _; rw [syN_len, setA_la]
theorem layB_snoc (ep : Int) (l : List LEnt) (x : LEnt) : layB ep (l ++ [x]) = layB ep l ++ [makeS (frOf ep x)] := by unfold layB; simp
theorem layB_len (ep : Int) (l : List LEnt) : (layB ep l).length = l.length := by unfold layB; simp
theorem make_le (f : Fr) : (makeS f).length ≤ 225 := by
 cases h : rightS f with
 | true => rw [makeS_len h]; have := (rightS_of h).2.2.2.2.2.2; omega
 | false => rw [makeS_no h]; simp
section
variable {n mark : Int} {d : Dv} {v : StmS} {a : Int × Dv} {r : Int × Dv × StmS}
theorem flS_go (h1 : readyE v = 0) (h2 : ¬ (mark < lastV v ∨ 4611686018427387903 < mark)) : flS n d v mark = fl2 mark (flL n d v) := by
 unfold flS; rw [if_neg (fun g => g h1), if_neg h2]
theorem flL_none (h : (v.l.length : Int) ≤ v.flushed) : flL n d v = (0, d, v) := by
 unfold flL; rw [List.getElem?_eq_none (by omega)]
theorem flL_some {x : LEnt} (h : v.l[v.flushed.toNat]? = some x) : flL n d v = fl1 d v (setA d 2 n x.at_ (layB v.ep (v.l.drop v.flushed.toNat)).flatten) := by
 unfold flL; rw [h]
theorem fl1_set (h : a.1 ≠ 0) : fl1 d v a = (a.1, a.2, stays v a.1) := if_pos h
theorem fl1_sy (h0 : a.1 = 0) (h : a.2.syE ≠ 0) : fl1 d v a = (a.2.syE, a.2.syN, stays v a.2.syE) := by
 unfold fl1; rw [if_neg (fun g => g h0), if_pos h]
theorem fl1_ok (h0 : a.1 = 0) (h : a.2.syE = 0) : fl1 d v a = (0, a.2.syN, { v with flushed := v.l.length }) := by
 unfold fl1; rw [if_neg (fun g => g h0), if_neg (fun g => g h)]
theorem fl2_err (h : r.1 ≠ 0) : fl2 mark r = r := if_pos h
theorem fl2_same (h0 : r.1 = 0) (h : mark = r.2.2.mrk) : fl2 mark r = (0, r.2.1, r.2.2) := by
 unfold fl2; rw [if_neg (fun g => g h0), if_pos h]
theorem fl2_save (h0 : r.1 = 0) (h : ¬ mark = r.2.2.mrk) : fl2 mark r = saveS r.2.1 r.2.2 { r.2.2.hd with mrk := mark } := by
 unfold fl2; rw [if_neg (fun g => g h0), if_neg h]
end
end Go.Q
namespace Go.Q
theorem step_R {i : Int} {best : Hd × Bool} {s : Bs} (hb : best.2 = true → hdR best.1 = true) (h : (ldStep i best (hdP s)).2 = true) : hdR (ldStep i best (hdP s)).1 = true := by
 unfold ldStep at h ⊢
 split
 · rename_i g; exact (hdP_true g.1).1
 · rename_i g; rw [if_neg g] at h; exact hb h
theorem ldP_R {a b : Bs} (h : (ldP a b).2 = 0) : hdR (ldP a b).1 = true := by
 unfold ldP at h ⊢
 simp only at h ⊢
 split
 · rename_i g; exact step_R (fun g2 => step_R (fun g3 => by cases g3) g2) g
 ·
  rename_i g
  rw [if_neg g] at h
  split at h <;> cases h
theorem ld_R {p : Pw} {la : List Bs} {x : Int} (h : ldE p la x = 0) : hdR (ldH p la x) = true := by
 unfold ldE at h
 unfold ldH
 split at h
 ·
  rename_i g
  split at h
  · rename_i ho; rw [if_pos ⟨g, ho⟩]; exact ldP_R h
  · cases h
 · cases h
section
variable {d : Dv} {n : Int}
theorem opE_ld (h : ldE d.p d.la 0 ≠ 0) : opE d n = ldE d.p d.la 0 := if_pos h
theorem opE_bad (h : ldE d.p d.la 0 = 0) (h2 : (ldH d.p d.la 0).ep = 0 ∨ (ldH d.p d.la 0).cut < (ldH d.p d.la 0).st ∨ (opC d n).2 < (ldH d.p d.la 0).cut) : opE d n = 9 := by
 unfold opE; rw [if_neg (fun g => g h), if_pos h2]
theorem opE_ok (h : ldE d.p d.la 0 = 0) (h2 : ¬ ((ldH d.p d.la 0).ep = 0 ∨ (ldH d.p d.la 0).cut < (ldH d.p d.la 0).st ∨ (opC d n).2 < (ldH d.p d.la 0).cut)) : opE d n = 0 := by
 unfold opE; rw [if_neg (fun g => g h), if_neg h2]
end
theorem ent_snoc (l : List Fr) (x : Fr) : (l ++ [x]).map entF = l.map entF ++ [entF x] := by simp
theorem ringB_len {d : Dv} {n at_ : Int} (h64 : Full64 d.la) (hlk : LoOk d.lo d.la.length) (hn : 1 ≤ n) (hln : (d.la.length : Int) = n + 2) : (ringB d n at_).length = (n * 64).toNat := by
 unfold ringB ringP
 exact getP_len h64 hlk (by omega) hn (by omega) ⟨Int.emod_nonneg _ (by omega), Int.emod_lt_of_pos _ (by omega)⟩ (by omega)
theorem chain_count (ep cut : Int) : ∀ (n : Nat) (s : Bs) (pl ab : Int), 25 * (chainS ep cut n s pl ab).1.length ≤ s.length ∧ (chainS ep cut n s pl ab).2 ≤ pl + s.length ∧ pl ≤ (chainS ep cut n s pl ab).2
 | 0, s, pl, ab => by simp only [chainS, List.length_nil]; omega
 | n + 1, s, pl, ab => by
  rw [chainS]
  split
  ·
   rename_i h
   rw [Bool.and_eq_true] at h
   obtain ⟨h1, h2⟩ := oN_le h.1
   have ih := chain_count ep cut n (s.drop (oN s).toNat) (pl + oN s) (oF s).gsn
   simp only [List.length_cons, List.length_drop] at ih ⊢
   omega
  · simp only [List.length_nil]; omega
end Go.Q
namespace Go.Q
theorem stays_l (v : StmS) (e : Int) : (stays v e).l = v.l := by unfold stays; split <;> rfl
theorem saveS_l {d : Dv} {v : StmS} {h : Hd} : (saveS d v h).2.2.l = v.l := by
 show (stays _ _).l = _
 rw [stays_l]
 split <;> rfl
theorem cutTail_some {v : StmS} {k : Nat} {x : LEnt} (h : v.l[k]? = some x) : cutTail v k = x.at_ := by unfold cutTail; rw [h]
theorem cutTail_none {v : StmS} {k : Nat} (h : v.l.length ≤ k) : cutTail v k = v.tail := by unfold cutTail; rw [List.getElem?_eq_none h]
end Go.Q
namespace Go.Q
theorem fits_of {ep cut pl ab : Int} {f : Fr} (h : fitsF ep cut pl ab f = true) : rightS f = true ∧ f.pl = pl ∧ ab < f.gsn ∧ f.ep ≤ ep ∧ (f.pl < cut ∨ f.ep = ep) := by
 unfold fitsF at h
 rw [Bool.and_eq_true] at h
 exact ⟨h.1, of_decide_eq_true h.2⟩
theorem chain_ok (ep cut : Int) : ∀ (n : Nat) (s : Bs) (pl ab : Int), LaidE pl ((chainS ep cut n s pl ab).1.map entF) (chainS ep cut n s pl ab).2 ∧ (∀ f ∈ (chainS ep cut n s pl ab).1, rightS f = true ∧ ab < f.gsn) ∧ RisesE ((chainS ep cut n s pl ab).1.map entF)
 | 0, s, pl, ab => ⟨rfl, (fun f hf => by cases hf), List.Pairwise.nil⟩
 | n + 1, s, pl, ab => by
  rw [chainS]
  split
  ·
   rename_i h
   rw [Bool.and_eq_true] at h
   obtain ⟨f1, f2, f3, f4, f5⟩ := fits_of h.2
   have hN := oN_yes h.1
   obtain ⟨i1, i2, i3⟩ := chain_ok ep cut n (s.drop (oN s).toNat) (pl + oN s) (oF s).gsn
   refine ⟨⟨f2, ?_⟩, ?_, ?_⟩
   · rw [hN] at i1; rw [hN]; exact i1
   ·
    intro f hf
    rcases List.mem_cons.1 hf with rfl | hf
    · exact ⟨f1, f3⟩
    · have := i2 f hf; exact ⟨this.1, by omega⟩
   ·
    refine List.Pairwise.cons ?_ i3
    intro e he
    obtain ⟨f, hf, rfl⟩ := List.mem_map.1 he
    exact (i2 f hf).2
  · exact ⟨rfl, (fun f hf => by cases hf), List.Pairwise.nil⟩
theorem le_last {v : StmS} (hr : RisesE v.l) : ∀ e ∈ v.l, e.gsn ≤ lastV v := by
 intro e he
 obtain ⟨i, hi⟩ := List.mem_iff_getElem?.1 he
 obtain ⟨hlt, hx⟩ := List.getElem?_eq_some_iff.1 hi
 have hl : v.l[v.l.length - 1]? = some v.l[v.l.length - 1] := List.getElem?_eq_getElem (by omega)
 rw [last_some hl]
 rcases Nat.lt_or_ge i (v.l.length - 1) with g | g
 ·
  have := List.pairwise_iff_getElem.1 hr i (v.l.length - 1) hlt (by omega) g
  rw [hx] at this; omega
 ·
  have : i = v.l.length - 1 := by omega
  subst this
  rw [hx]; omega
theorem risesE_snoc {l : List LEnt} {x : LEnt} (h : RisesE l) (hx : ∀ e ∈ l, e.gsn < x.gsn) : RisesE (l ++ [x]) := by
 refine List.pairwise_append.2 ⟨h, List.pairwise_singleton _ _, ?_⟩
 intro a ha b hb
 rw [List.mem_singleton.1 hb]; exact hx a ha
section
variable {n : Int} {v : StmS}
theorem fmV_ok {h : Hd} (hn : 1 ≤ n ∧ n ≤ 4094) (hr : hdR h = true) (h0 : h.st = 0) : StmOk n (fmV h) := by
 obtain ⟨b1, b2, b3, b4, b5⟩ := of_decide_eq_true hr
 refine ⟨hn, b5, b4, b3, b2, b1, ?_, ?_, ?_, (fun e he => by cases he), (fun e he => by cases he), List.Pairwise.nil, ⟨Int.le_refl (0 : Int), Int.le_refl (0 : Int)⟩⟩
 · show (0 : Int) ≤ h.st + n * 64; omega
 · exact ⟨Int.le_refl (0 : Int), by show (0 : Int) ≤ n * 64 - (0 - h.st); omega⟩
 · exact h0.symm
theorem layS_ok (h : StmOk n v) {g : Int} {s : Bs} (hg : lastV v < g) (hg2 : g ≤ 4611686018427387903) (hs : s.length ≤ 200) (hf : 25 + (s.length : Int) ≤ freeV n v) : StmOk n (layS v g s) := by
 have hl := last_le h
 have hfr : freeV n v = n * 64 - (v.tail - v.st) - v.res := rfl
 have hr := h.res
 refine ⟨h.num, h.mrk, h.st, h.cut, h.ep, h.seq, ?_, ?_, h.lay.snoc g s, ?_, ?_, ?_, ?_⟩
 · show v.tail + (25 + (s.length : Int)) ≤ v.st + n * 64; omega
 · exact ⟨hr.1, by show v.res ≤ n * 64 - (v.tail + (25 + (s.length : Int)) - v.st); omega⟩
 ·
  intro e he
  rcases List.mem_append.1 he with q | q
  · exact h.gsn e q
  · rw [List.mem_singleton.1 q]; exact ⟨by show 0 ≤ g; omega, hg2⟩
 ·
  intro e he
  rcases List.mem_append.1 he with q | q
  · exact h.dat e q
  · rw [List.mem_singleton.1 q]; exact hs
 ·
  refine risesE_snoc h.rise fun e he => ?_
  have := le_last h.rise e he
  show e.gsn < g; omega
 ·
  have := h.fl
  exact ⟨this.1, by show v.flushed ≤ ((v.l ++ [_]).length : Int); rw [List.length_append, List.length_singleton]; omega⟩
theorem apS_ok (h : StmOk n v) (g : Int) (s : Bs) : StmOk n (apS n v g s) := by
 unfold apS
 split
 ·
  rename_i h0
  unfold apE at h0
  split at h0
  · rename_i h1; exact absurd h0 h1
  ·
   rename_i h1
   split at h0
   · cases h0
   ·
    obtain ⟨_, h2, h3, h4⟩ := mayL_zero (Classical.not_not.1 h1)
    exact layS_ok h h2 h3 (by omega) (by omega)
 · exact h
theorem stays_ok (h : StmOk n v) (e : Int) : StmOk n (stays v e) := by
 unfold stays
 split
 · exact ⟨h.num, h.mrk, h.st, h.cut, h.ep, h.seq, h.tail, h.res, h.lay, h.gsn, h.dat, h.rise, h.fl⟩
 · exact h
theorem flushed_ok (h : StmOk n v) : StmOk n { v with flushed := v.l.length } :=
 ⟨h.num, h.mrk, h.st, h.cut, h.ep, h.seq, h.tail, h.res, h.lay, h.gsn, h.dat, h.rise, ⟨by show (0 : Int) ≤ v.l.length; omega, Int.le_refl _⟩⟩
theorem put_ok (h : StmOk n v) {x : Hd} (hr : hdR x = true) (hs : x.st = v.st) : StmOk n (v.put x) := by
 obtain ⟨b1, b2, b3, b4, b5⟩ := of_decide_eq_true hr
 refine ⟨h.num, b5, b4, b3, b2, b1, ?_, ?_, ?_, h.gsn, h.dat, h.rise, h.fl⟩
 · show v.tail ≤ x.st + n * 64; rw [hs]; exact h.tail
 · show 0 ≤ v.res ∧ v.res ≤ n * 64 - (v.tail - x.st); rw [hs]; exact h.res
 · show LaidE x.st v.l v.tail; rw [hs]; exact h.lay
theorem svD_hd {d : Dv} {x : Int} {h : Hd} (h0 : (svD d x h).1 = 0) : svOk h ∧ (svD d x h).2.1 = hdUp h := by
 unfold svD at h0 ⊢
 split
 · rename_i g; rw [if_pos g] at h0; cases h0
 rename_i g
 rw [if_neg g] at h0
 split
 · rename_i g2; rw [if_pos g2] at h0; exact absurd h0 g2
 rename_i g2
 rw [if_neg g2] at h0
 split
 · rename_i g3; rw [if_pos g3] at h0; exact absurd h0 g3
 rename_i g3
 rw [if_neg g3] at h0
 split
 · rename_i g4; rw [if_pos g4] at h0; exact absurd h0 g4
 · exact ⟨Classical.not_not.1 g, rfl⟩
theorem saveS_ok (h : StmOk n v) {d : Dv} {x : Hd} (hs : x.st = v.st) : StmOk n (saveS d v x).2.2 := by
 refine stays_ok ?_ _
 split
 ·
  rename_i h0
  obtain ⟨g1, g2⟩ := svD_hd h0
  rw [g2]
  exact put_ok h g1.up hs
 · exact h
theorem flL_ok (h : StmOk n v) (d : Dv) : StmOk n (flL n d v).2.2 := by
 unfold flL
 split
 · exact h
 ·
  unfold fl1
  split
  · exact stays_ok h _
  ·
   split
   · exact stays_ok h _
   · exact flushed_ok h
theorem flL_hd (d : Dv) : (flL n d v).2.2.hd = v.hd := by
 unfold flL
 split
 · rfl
 ·
  unfold fl1
  split
  · show (stays _ _).hd = _; unfold stays; split <;> rfl
  ·
   split
   · show (stays _ _).hd = _; unfold stays; split <;> rfl
   · rfl
theorem flS_ok (h : StmOk n v) (d : Dv) (mark : Int) : StmOk n (flS n d v mark).2.2 := by
 unfold flS
 split
 · exact h
 ·
  split
  · exact h
  ·
   unfold fl2
   split
   · exact flL_ok h d
   ·
    split
    · exact flL_ok h d
    · exact saveS_ok (flL_ok h d) rfl
theorem take_ok {l : List LEnt} (hr : RisesE l) (k : Nat) : RisesE (l.take k) := hr.sublist (List.take_sublist _ _)
theorem ctS_ok (h : StmOk n v) (d : Dv) (last : Int) : StmOk n (ctS d v last).2.2 := by
 unfold ctS
 split
 · exact h
 ·
  split
  · exact h
  ·
   split
   · exact h
   ·
    split
    · exact h
    ·
     split
     · exact saveS_ok h rfl
     ·
      have hs := saveS_ok h (d := d) (x := ctH v last (posE v.l (last + 1)).toNat) rfl
      have hl : (saveS d v (ctH v last (posE v.l (last + 1)).toNat)).2.2.l = v.l := saveS_l
      have hp := posE_le v.l (last + 1)
      have hst : (saveS d v (ctH v last (posE v.l (last + 1)).toNat)).2.2.st = v.st := by
       show (stays _ _).st = _
       have : ∀ (u : StmS) (e : Int), (stays u e).st = u.st := fun u e => by unfold stays; split <;> rfl
       rw [this]
       split
       · rename_i h0; obtain ⟨_, g2⟩ := svD_hd h0; rw [g2]; rfl
       · rfl
      have hres : (saveS d v (ctH v last (posE v.l (last + 1)).toNat)).2.2.res = v.res := by
       show (stays _ _).res = _
       have : ∀ (u : StmS) (e : Int), (stays u e).res = u.res := fun u e => by unfold stays; split <;> rfl
       rw [this]
       split <;> rfl
      have hlt : LaidE v.st (v.l.take (posE v.l (last + 1)).toNat) (cutTail v (posE v.l (last + 1)).toNat) ∧ cutTail v (posE v.l (last + 1)).toNat ≤ v.tail := by
       unfold cutTail
       split
       ·
        rename_i he
        rw [List.take_of_length_le (by simpa using he)]
        exact ⟨h.lay, Int.le_refl _⟩
       ·
        rename_i x hx
        obtain ⟨a1, a2⟩ := h.lay.at hx
        have := a2.le
        exact ⟨a1, by omega⟩
      have ht := h.tail
      have hr := h.res
      refine ⟨hs.num, hs.mrk, hs.st, hs.cut, hs.ep, hs.seq, ?_, ?_, ?_, ?_, ?_, ?_, ?_⟩
      · show cutTail v _ ≤ (saveS d v _).2.2.st + n * 64; rw [hst]; omega
      · show 0 ≤ (saveS d v _).2.2.res ∧ (saveS d v _).2.2.res ≤ n * 64 - (cutTail v _ - (saveS d v _).2.2.st); rw [hst, hres]; omega
      · show LaidE (saveS d v _).2.2.st ((saveS d v _).2.2.l.take _) _; rw [hst, hl]; exact hlt.1
      · show ∀ e ∈ (saveS d v _).2.2.l.take _, _; rw [hl]; exact fun e he => h.gsn e (List.mem_of_mem_take he)
      · show ∀ e ∈ (saveS d v _).2.2.l.take _, _; rw [hl]; exact fun e he => h.dat e (List.mem_of_mem_take he)
      · show RisesE ((saveS d v _).2.2.l.take _); rw [hl]; exact take_ok h.rise _
      ·
       show 0 ≤ posE v.l (last + 1) ∧ posE v.l (last + 1) ≤ (((saveS d v _).2.2.l.take _).length : Int)
       rw [hl, List.length_take]; omega
theorem opS_ok {d : Dv} (hn : 1 ≤ n ∧ n ≤ 4094) (h64 : Full64 d.la) (hlk : LoOk d.lo d.la.length) (hln : (d.la.length : Int) = n + 2) (h : opE d n = 0) : StmOk n (opS d n) := by
 have hld : ldE d.p d.la 0 = 0 := by
  unfold opE at h
  split at h
  · rename_i g; exact absurd h g
  · rename_i g; exact Classical.not_not.1 g
 obtain ⟨b1, b2, b3, b4, b5⟩ := of_decide_eq_true (ld_R hld)
 obtain ⟨c1, c2, c3⟩ := chain_count (ldH d.p d.la 0).ep (ldH d.p d.la 0).cut ((ringB d n (ldH d.p d.la 0).st).length + 1) (ringB d n (ldH d.p d.la 0).st) (ldH d.p d.la 0).st (-1)
 obtain ⟨k1, k2, k3⟩ := chain_ok (ldH d.p d.la 0).ep (ldH d.p d.la 0).cut ((ringB d n (ldH d.p d.la 0).st).length + 1) (ringB d n (ldH d.p d.la 0).st) (ldH d.p d.la 0).st (-1)
 have hrl := ringB_len (at_ := (ldH d.p d.la 0).st) h64 hlk hn.1 hln
 have hc2 : (opC d n).2 ≤ (ldH d.p d.la 0).st + ((n * 64).toNat : Int) := by rw [← hrl]; exact c2
 have hx : ∀ e ∈ (opS d n).l, ∃ f, rightS f = true ∧ e = entF f := by
  intro e he
  obtain ⟨f, hf, rfl⟩ := List.mem_map.1 he
  exact ⟨f, (k2 f hf).1, rfl⟩
 refine ⟨hn, b5, b4, b3, b2, b1, ?_, ?_, k1, ?_, ?_, k3, ?_⟩
 ·
  show (opC d n).2 ≤ (ldH d.p d.la 0).st + n * 64
  omega
 · exact ⟨Int.le_refl (0 : Int), by show (0 : Int) ≤ n * 64 - ((opC d n).2 - (ldH d.p d.la 0).st); omega⟩
 ·
  intro e he
  obtain ⟨f, hr, rfl⟩ := hx e he
  have := rightS_of hr
  exact ⟨this.2.2.2.2.1, this.2.2.2.2.2.1⟩
 ·
  intro e he
  obtain ⟨f, hr, rfl⟩ := hx e he
  exact (rightS_of hr).2.2.2.2.2.2
 · exact ⟨by show (0 : Int) ≤ ((opC d n).1.length : Int); omega, by show ((opC d n).1.length : Int) ≤ (((opC d n).1.map entF).length : Int); rw [List.length_map]; omega⟩
end
end Go.Q
namespace Go.Q
section
variable {n : Int} {d : Dv} {v : StmS} {k : Nat}
theorem flL_lo (hl : LoOk d.lo d.la.length) : LoOk (flL n d v).2.1.lo (flL n d v).2.1.la.length := by
 unfold flL
 split
 · exact hl
 ·
  unfold fl1
  split
  · exact setA_lk hl
  ·
   split
   · exact syN_lo (setA_lk hl)
   · exact syN_lo (setA_lk hl)
theorem few_flL (hf : Few d.p k) (hn : 1 ≤ n) : Few (flL n d v).2.1.p (k + (n.toNat + 2)) := by
 unfold flL
 split
 · exact hf.mono (by omega)
 ·
  unfold fl1
  split
  · exact (few_setA hf hn).mono (by omega)
  ·
   split
   · exact (few_setA hf hn).use
   · exact (few_setA hf hn).use
theorem flS_lo (hl : LoOk d.lo d.la.length) (m : Int) : LoOk (flS n d v m).2.1.lo (flS n d v m).2.1.la.length := by
 unfold flS
 split
 · exact hl
 ·
  split
  · exact hl
  ·
   unfold fl2
   split
   · exact flL_lo hl
   ·
    split
    · exact flL_lo hl
    · exact saveS_lo (flL_lo hl)
theorem few_flS (hf : Few d.p k) (hn : 1 ≤ n) (m : Int) : Few (flS n d v m).2.1.p (k + (n.toNat + 4)) := by
 unfold flS
 split
 · exact hf.mono (by omega)
 ·
  split
  · exact hf.mono (by omega)
  ·
   unfold fl2
   split
   · exact (few_flL hf hn).mono (by omega)
   ·
    split
    · exact (few_flL hf hn).mono (by omega)
    · exact few_saveS (few_flL hf hn)
theorem flS_len (m : Int) : (flS n d v m).2.1.la.length = d.la.length := by
 unfold flS
 split
 · rfl
 ·
  split
  · rfl
  ·
   unfold fl2
   split
   · exact flL_len
   ·
    split
    · exact flL_len
    · rw [saveS_len]; exact flL_len
theorem ctS_lo (hl : LoOk d.lo d.la.length) (m : Int) : LoOk (ctS d v m).2.1.lo (ctS d v m).2.1.la.length := by
 unfold ctS
 split
 · exact hl
 split
 · exact hl
 split
 · exact hl
 split
 · exact hl
 split
 · exact saveS_lo (v := v) hl
 · exact saveS_lo (v := v) hl
theorem few_ctS (hf : Few d.p k) (m : Int) : Few (ctS d v m).2.1.p (k + 2) := by
 unfold ctS
 split
 · exact hf.mono (by omega)
 split
 · exact hf.mono (by omega)
 split
 · exact hf.mono (by omega)
 split
 · exact hf.mono (by omega)
 split
 · exact few_saveS (v := v) hf
 · exact few_saveS (v := v) hf
theorem wrs_lo : ∀ (g : Grp) (d : Dv), LoOk d.lo d.la.length → LoOk (wrs d g).2.lo (wrs d g).2.la.length
 | [], _, h => h
 | (n, s) :: t, d, h => by
  have e : wrs d ((n, s) :: t) = if d.wrE n s = 0 then wrs (d.wr n s) t else (d.wrE n s, d.wr n s) := rfl
  have h1 : LoOk (d.wr n s).lo (d.wr n s).la.length := h.write _ _ _
  rw [e]
  split
  · exact wrs_lo t _ h1
  · exact h1
theorem fmS_lo (hl : LoOk d.lo d.la.length) : LoOk (fmS d).2.2.lo (fmS d).2.2.la.length := by
 unfold fmS
 split
 · exact wrs_lo _ _ hl
 · exact svD_lo (wrs_lo _ _ hl)
theorem few_fmS (hf : Few d.p k) : Few (fmS d).2.2.p (k + d.la.length + 2) := by
 have h1 := few_wrs (fmtG d.la.length) d hf
 rw [fmtG_len] at h1
 unfold fmS
 split
 · exact h1.mono (by omega)
 · exact few_svD h1
end
end Go.Q
namespace Go.Q
def PutK (nb : Bs) (l1 : List Bs) (k i : Nat) (la : List Bs) : Prop := la.length = k + 2 ∧ Full64 la ∧ sec la 0 = sec l1 0 ∧ sec la 1 = sec l1 1 ∧ ∀ j : Nat, j < i → sec la (2 + (j : Int)) = (nb.take (64 * j + 64)).drop (64 * j)
theorem PutK.start {nb : Bs} {l1 : List Bs} {k : Nat} (hl : l1.length = k + 2) (h : Full64 l1) : PutK nb l1 k 0 l1 := ⟨hl, h, rfl, rfl, fun j hj => by omega⟩
theorem PutK.step {nb : Bs} {l1 : List Bs} {k i : Nat} {la : List Bs} (h : PutK nb l1 k i la) (hi : i < k) (hn : nb.length = 64 * k) : PutK nb l1 k (i + 1) (putA la (2 + (i : Int)) ((nb.take (64 * (i : Int) + 64).toNat).drop (64 * (i : Int)).toNat)) := by
 obtain ⟨h1, h2, h3, h4, h5⟩ := h
 rw [show (64 * (i : Int) + 64).toNat = 64 * i + 64 by omega, show (64 * (i : Int)).toNat = 64 * i by omega]
 have hl : ((nb.take (64 * i + 64)).drop (64 * i)).length = 64 := by rw [List.length_drop, List.length_take]; omega
 have hin : inS (2 + (i : Int)) la.length := ⟨by omega, by omega⟩
 have e : putA la (2 + (i : Int)) ((nb.take (64 * i + 64)).drop (64 * i)) = la.set (2 + (i : Int)).toNat ((nb.take (64 * i + 64)).drop (64 * i)) := by
  unfold putA
  rw [if_pos ⟨by omega, hin⟩, fill_full hl]
 refine ⟨by rw [putA_len]; exact h1, putA_64 h2, ?_, ?_, fun j hj => ?_⟩
 · rw [e, sec_set hin (by decide), if_neg (by omega)]; exact h3
 · rw [e, sec_set hin (by decide), if_neg (by omega)]; exact h4
 ·
  rw [e, sec_set hin (by omega)]
  split
  · rename_i q; rw [show j = i by omega]
  · exact h5 j (by omega)
theorem PutK.cn {nb : Bs} {l1 : List Bs} {k : Nat} {la : List Bs} (h : PutK nb l1 k k la) (hn : nb.length = 64 * k) : Cn nb la [] 2 k := by
 refine ⟨by omega, fun i hi => ?_⟩
 have hs := h.2.2.2.2 (i / 64) (by omega)
 have e : nowAt la [] (2 + i / 64) = sec la (2 + ((i / 64 : Nat) : Int)) := by
  unfold nowAt sec
  rw [show (2 + ((i / 64 : Nat) : Int)).toNat = 2 + i / 64 by omega]; rfl
 rw [e, hs, List.getElem?_drop, List.getElem?_take, if_pos (by omega)]
 congr 1; omega
theorem PutK.kp {nb : Bs} {l1 : List Bs} {k i : Nat} {la : List Bs} {h : Hd} (p : PutK nb l1 k i la) (hk : KpA l1 0 h) : KpA la 0 h := by
 unfold KpA at *
 rw [p.2.2.1, show (0 : Int) + 1 = 1 by decide, p.2.2.2.1]; exact hk
theorem PutK.ring {nb : Bs} {l1 : List Bs} {k : Nat} {la : List Bs} (p : PutK nb l1 k k la) (hn : nb.length = 64 * k) (hk : 1 ≤ k) (pw : Pw) (at_ : Int) : ringB ⟨pw, la, []⟩ (k : Int) at_ = rdR nb (at_ % ((k : Int) * 64)).toNat (k * 64) (64 * k) := by
 unfold ringB ringP
 have hc : Cn nb la [] (2 : Int).toNat ((k : Int)).toNat := p.cn hn
 rw [getP_now (lo := []) hc (area_64 (fr := 2) (n := (k : Int)) p.2.1 (LoOk.nil _) (by decide) (by omega) (by rw [p.1]; omega)) (by decide) (by omega) ⟨Int.emod_nonneg _ (by omega), Int.emod_lt_of_pos _ (by omega)⟩ (by omega)]
 rw [show ((k : Int)).toNat = k by omega, show ((k : Int) * 64).toNat = 64 * k by omega]
theorem posE_neg {l : List LEnt} (h : ∀ e ∈ l, 0 ≤ e.gsn) : posE l (-1) = 0 := by
 unfold posE
 rw [List.filter_eq_nil_iff.2 fun e he => by have := h e he; simp; omega]; rfl
end Go.Q
namespace Go.Q
def ChnOk (ep cut : Int) (L : List Fr) : Prop := ∀ f ∈ L, rightS f = true ∧ f.ep ≤ ep ∧ (f.pl < cut ∨ f.ep = ep)
theorem fits_yes {ep cut pl ab : Int} {f : Fr} (hr : rightS f = true) (h1 : f.pl = pl) (h2 : ab < f.gsn) (h3 : f.ep ≤ ep) (h4 : f.pl < cut ∨ f.ep = ep) : fitsF ep cut pl ab f = true := by
 unfold fitsF; rw [hr, Bool.true_and]; exact decide_eq_true ⟨h1, h2, h3, h4⟩
theorem chain_made (ep cut : Int) : ∀ (L : List Fr) (N : Nat) (rest : Bs) (pl ab t : Int), L.length ≤ N → LaidE pl (L.map entF) t → ChnOk ep cut L → (∀ f ∈ L, ab < f.gsn) → RisesE (L.map entF) →
  ∃ ab', chainS ep cut N ((L.map makeS).flatten ++ rest) pl ab = (L ++ (chainS ep cut (N - L.length) rest t ab').1, (chainS ep cut (N - L.length) rest t ab').2)
 | [], N, rest, pl, ab, t, _, hl, _, _, _ => ⟨ab, by have e : t = pl := hl; rw [e]; simp⟩
 | f :: L, 0, rest, pl, ab, t, hN, _, _, _, _ => by simp at hN
 | f :: L, N + 1, rest, pl, ab, t, hN, hl, hc, ha, hr => by
  obtain ⟨c1, c2, c3⟩ := hc f List.mem_cons_self
  have hp : f.pl = pl := hl.1
  have hm : ((f :: L).map makeS).flatten ++ rest = makeS f ++ ((L.map makeS).flatten ++ rest) := by simp
  obtain ⟨o1, o2⟩ := made_oF c1 ((L.map makeS).flatten ++ rest)
  have oo := made_opens c1 ((L.map makeS).flatten ++ rest)
  have hd : (makeS f ++ ((L.map makeS).flatten ++ rest)).drop (((f.data.length : Nat) : Int) + 25).toNat = (L.map makeS).flatten ++ rest := by
   rw [show (((f.data.length : Nat) : Int) + 25).toNat = (makeS f).length by rw [makeS_len c1]; omega, List.drop_left]
  obtain ⟨h2, h3⟩ := List.pairwise_cons.1 (show List.Pairwise _ (entF f :: L.map entF) from hr)
  obtain ⟨ab', ih⟩ := chain_made ep cut L N rest (pl + (25 + (f.data.length : Int))) f.gsn t (by simp only [List.length_cons] at hN; omega) hl.2 (fun g hg => hc g (List.mem_cons_of_mem _ hg)) (fun g hg => h2 (entF g) (List.mem_map_of_mem hg)) h3
  refine ⟨ab', ?_⟩
  rw [hm, chainS, if_pos (by rw [oo, o1, fits_yes c1 hp (ha f List.mem_cons_self) c2 c3]; rfl), o1, o2, hd, show pl + (((f.data.length : Nat) : Int) + 25) = pl + (25 + (f.data.length : Int)) by omega, ih]
  simp
theorem chain_bytes (ep cut : Int) : ∀ (N : Nat) (s : Bs) (pl ab : Int), s = ((chainS ep cut N s pl ab).1.map makeS).flatten ++ s.drop ((chainS ep cut N s pl ab).2 - pl).toNat
 | 0, s, pl, ab => by simp [chainS]
 | N + 1, s, pl, ab => by
  rw [chainS]
  split
  ·
   rename_i h
   rw [Bool.and_eq_true] at h
   obtain ⟨g1, g2, g3, g4⟩ := opens_made h.1
   have eF : oF s = fO s := by unfold oF; rw [if_pos h.1]
   have eN : oN s = (takeS s 1).1 + 25 := by unfold oN; rw [if_pos h.1]
   have ih := chain_bytes ep cut N (s.drop (oN s).toNat) (pl + oN s) (oF s).gsn
   obtain ⟨c1, c2, c3⟩ := chain_count ep cut N (s.drop (oN s).toNat) (pl + oN s) (oF s).gsn
   have hN := oN_le h.1
   show s = (makeS (oF s) :: ((chainS ep cut N (s.drop (oN s).toNat) (pl + oN s) (oF s).gsn).1.map makeS)).flatten ++ s.drop ((chainS ep cut N (s.drop (oN s).toNat) (pl + oN s) (oF s).gsn).2 - pl).toNat
   rw [List.flatten_cons, List.append_assoc]
   generalize chainS ep cut N (s.drop (oN s).toNat) (pl + oN s) (oF s).gsn = C at *
   rw [List.drop_drop, show (oN s).toNat + (C.2 - (pl + oN s)).toNat = (C.2 - pl).toNat by omega] at ih
   rw [← ih, eF, eN]
   exact g3
  · simp
theorem chain_chn (ep cut : Int) : ∀ (N : Nat) (s : Bs) (pl ab : Int), ChnOk ep cut (chainS ep cut N s pl ab).1
 | 0, s, pl, ab => fun f hf => by cases hf
 | N + 1, s, pl, ab => by
  rw [chainS]
  split
  ·
   rename_i h
   rw [Bool.and_eq_true] at h
   obtain ⟨f1, f2, f3, f4, f5⟩ := fits_of h.2
   intro f hf
   rcases List.mem_cons.1 hf with rfl | hf
   · exact ⟨f1, f4, f5⟩
   · exact chain_chn ep cut N _ _ _ f hf
  · exact fun f hf => by cases hf
theorem LaidE.mem : ∀ {l : List LEnt} {a t : Int} (_ : LaidE a l t) {e : LEnt}, e ∈ l → a ≤ e.at_ ∧ e.at_ + 25 + (e.data.length : Int) ≤ t
 | [], _, _, _, e, he => by cases he
 | x :: l, a, t, h, e, he => by
  have hx := h.1
  rcases List.mem_cons.1 he with rfl | he
  · have := LaidE.le h.2; omega
  · have := LaidE.mem h.2 he; omega
theorem laid_size : ∀ {L : List Fr} {a t : Int}, LaidE a (L.map entF) t → (∀ f ∈ L, rightS f = true) → (((L.map makeS).flatten.length : Nat) : Int) = t - a
 | [], a, t, h, _ => by have e : t = a := h; rw [e]; simp
 | f :: L, a, t, h, hr => by
  have ih := laid_size h.2 (fun g hg => hr g (List.mem_cons_of_mem _ hg))
  have e : entF f = ⟨f.gsn, f.pl, f.data⟩ := rfl
  simp only [List.map_cons, List.flatten_cons, List.length_append, makeS_len (hr f List.mem_cons_self)]
  rw [e] at ih
  simp only at ih
  omega
theorem LaidE.append : ∀ {l m : List LEnt} {a t u : Int}, LaidE a l t → LaidE t m u → LaidE a (l ++ m) u
 | [], m, a, t, u, h, g => by have e : t = a := h; rw [← e]; exact g
 | x :: l, m, a, t, u, h, g => ⟨h.1, LaidE.append h.2 g⟩
def plcN (s : Bs) (a : Nat) : Nat → Int
 | 0 => 0
 | j + 1 => IntKind.wrap .i64 (IntKind.wrap .i64 (plcN s a j * 256) + (((s[a + 5 + j]?).getD 0).toNat : Int))
theorem beVal_take_le (D : Bs) : ∀ k : Nat, beVal (D.take k) ≤ beVal D := fun k => by
 have key : ∀ (m l : Bs), beVal l ≤ beVal (l ++ m) := by
  intro m
  induction m with
  | nil => intro l; simp
  | cons c m ih =>
   intro l
   have h1 : beVal l ≤ beVal (l ++ [c]) := by rw [beVal_snoc]; have := beVal_nonneg l; omega
   have h2 := ih (l ++ [c])
   rw [List.append_assoc, List.singleton_append] at h2
   omega
 have := key (D.drop k) (D.take k)
 rwa [List.take_append_drop] at this
theorem plc_eq {s D : Bs} {a : Nat} (hD : ∀ j, j < 8 → s[a + 5 + j]? = D[j]?) (hl : D.length = 8) (hv : beVal D ≤ 4611686018427387903) : ∀ j, j ≤ 8 → plcN s a j = beVal (D.take j)
 | 0, _ => by simp [plcN, beVal]
 | j + 1, hj => by
  have ih := plc_eq hD hl hv j (by omega)
  have hx : D[j]? = some D[j] := List.getElem?_eq_getElem (by omega)
  have h1 := beVal_take_le D (j + 1)
  rw [zS hx, beVal_snoc] at h1 ⊢
  have h0 := beVal_nonneg (D.take j)
  have hb := D[j].toNat_lt
  rw [plcN, ih, hD j (by omega), hx, Option.getD_some, (w64 (by omega) (by omega) : IntKind.wrap .i64 (beVal (D.take j) * 256) = beVal (D.take j) * 256)]
  exact w64 (by omega) (by omega)
theorem plc_made {s : Bs} {a : Nat} {f : Fr} {more : Bs} (hr : rightS f = true) (h : s.drop a = makeS f ++ more) : plcN s a 8 = f.pl := by
 obtain ⟨r1, r2, r3, r4, r5, r6, r7⟩ := rightS_of hr
 have hv : beVal (beFrom f.pl 8) = f.pl := by
  have := beVal_be f.pl.toNat 8 (by omega)
  rwa [show ((f.pl.toNat : Nat) : Int) = f.pl by omega] at this
 have hx : ∀ j, j < 8 → s[a + 5 + j]? = (beFrom f.pl 8)[j]? := by
  intro j hj
  have e : s[a + 5 + j]? = (s.drop a)[5 + j]? := by rw [List.getElem?_drop]; congr 1; omega
  rw [e, h, made_flat hr, List.getElem?_append_right (by rw [zA]; omega), zA, List.getElem?_append_right (by rw [zA]; omega), zA, List.getElem?_append_left (by rw [zA]; omega)]
  congr 1; omega
 rw [plc_eq hx (zA _ _) (by rw [hv]; omega) 8 (Nat.le_refl _), List.take_of_length_le (by rw [zA]; omega), hv]
def Pst (r : Bs) (ep : Int) (i : Nat) : Prop := ∀ a : Nat, a < i → Int.tmod (plcN (r ++ r) a 8) (r.length : Int) = (a : Int) → opensB (((r ++ r).take (a + r.length)).drop a) = true → (oF (((r ++ r).take (a + r.length)).drop a)).ep ≤ ep
theorem Pst.none (r : Bs) (ep : Int) : Pst r ep 0 := fun a ha => by omega
theorem Pst.place {r : Bs} {ep : Int} {i : Nat} (h : Pst r ep i) (g : Int.tmod (plcN (r ++ r) i 8) (r.length : Int) ≠ (i : Int)) : Pst r ep (i + 1) := fun a ha e => by
 rcases Nat.lt_or_ge a i with q | q
 · exact h a q e
 · rw [show a = i by omega] at e; exact absurd e g
theorem Pst.next {r : Bs} {ep : Int} {i : Nat} (h : Pst r ep i) (g : opensB (((r ++ r).take (i + r.length)).drop i) = true → (oF (((r ++ r).take (i + r.length)).drop i)).ep ≤ ep) : Pst r ep (i + 1) := fun a ha e ho => by
 rcases Nat.lt_or_ge a i with q | q
 · exact h a q e ho
 · rw [show a = i by omega] at ho ⊢; exact g ho
theorem Pst.stop {r : Bs} {ep cut : Int} (h : Pst r 1 r.length) (he : ep = 2) {t : Nat} (hc : cut ≤ t) (ab : Int) : opensB (r.drop t) = false ∨ fitsF ep cut t ab (oF (r.drop t)) = false := by
 cases ho : opensB (r.drop t) with
 | false => exact .inl rfl
 | true =>
  refine .inr ?_
  cases hf : fitsF ep cut t ab (oF (r.drop t)) with
  | false => rfl
  | true =>
   exfalso
   obtain ⟨f1, f2, f3, f4, f5⟩ := fits_of hf
   obtain ⟨g1, g2, g3, g4⟩ := opens_made ho
   have hlt : t < r.length := by
    rcases Nat.lt_or_ge t r.length with q | q
    · exact q
    · rw [List.drop_of_length_le q] at ho; rw [opens_nil] at ho; cases ho
   have eF : oF (r.drop t) = fO (r.drop t) := by unfold oF; rw [if_pos ho]
   rw [eF] at f2 f5
   generalize hF : fO (r.drop t) = f at *
   have hs : ((r ++ r).take (t + r.length)).drop t = makeS f ++ ((r.drop t).drop ((takeS (r.drop t) 1).1 + 25).toNat ++ r.take t) := by
    rw [← List.append_assoc, ← g3, List.take_append, List.drop_append, List.take_of_length_le (by omega), show t + r.length - r.length = t by omega, show t - r.length = 0 by omega, List.drop_zero]
   have hd : (r ++ r).drop t = makeS f ++ ((r.drop t).drop ((takeS (r.drop t) 1).1 + 25).toNat ++ r) := by
    rw [← List.append_assoc, ← g3, List.drop_append, show t - r.length = 0 by omega, List.drop_zero]
   have hp := plc_made g1 hd
   have := h t hlt (by rw [hp, f2]; exact Int.tmod_eq_of_lt (by omega) (by omega)) (by rw [hs]; exact made_opens g1 _)
   rw [hs, (made_oF g1 _).1] at this
   rcases f5 with q | q
   · omega
   · omega
end Go.Q
namespace Go.Q
def Pw1 (p : Pw) : Prop := p.off = false ∧ p.armed = false
theorem Pw1.use {p : Pw} (h : Pw1 p) : useB p = true ∧ Pw1 (useS p) := by
 obtain ⟨h1, h2⟩ := h
 unfold Pw1 useB useS
 rw [h1, h2]
 exact ⟨rfl, rfl, rfl⟩
theorem Pw1.back (p : Pw) : Pw1 (backS p) := ⟨rfl, rfl⟩
def Hi2 (lo : List (Int × Bs)) : Prop := ∀ q ∈ lo, 2 ≤ q.1
theorem Hi2.nil : Hi2 [] := fun q hq => by cases hq
theorem Hi2.get {lo : List (Int × Bs)} (h : Hi2 lo) {j : Int} (hj : j < 2) : getB lo j = none := by
 cases e : getB lo j with
 | none => rfl
 | some x => have := h _ (getB_some e); simp only at this; omega
def SameH (la la' : List Bs) : Prop := la'.length = la.length ∧ ∀ j : Nat, j < 2 → la'[j]? = la[j]?
theorem SameH.rfl' (la : List Bs) : SameH la la := ⟨rfl, fun _ _ => rfl⟩
theorem SameH.trans {a b c : List Bs} (h : SameH a b) (g : SameH b c) : SameH a c := ⟨g.1.trans h.1, fun j hj => (g.2 j hj).trans (h.2 j hj)⟩
theorem KpA.same {la la' : List Bs} {h : Hd} (k : KpA la 0 h) (s : SameH la la') : KpA la' 0 h := by
 unfold KpA sec at *
 rw [show ((0 : Int) + 1).toNat = 1 from rfl, show (0 : Int).toNat = 0 from rfl] at *
 rw [s.2 0 (by omega), s.2 1 (by omega)]; exact k
theorem same_now {la : List Bs} {lo : List (Int × Bs)} (h : Hi2 lo) : SameH la (nowS la lo) := by
 refine ⟨now_len _ _, fun j hj => ?_⟩
 by_cases g : j < la.length
 ·
  rw [now_get g]
  unfold nowAt
  rw [h.get (by omega), Option.getD_none, List.getElem?_eq_getElem g]; rfl
 · rw [List.getElem?_eq_none (by rw [now_len]; omega), List.getElem?_eq_none (by omega)]
theorem same_syN {d : Dv} (h : Hi2 d.lo) : SameH d.la d.syN.la ∧ Hi2 d.syN.lo := by
 unfold Dv.syN syncO
 cases useB d.p with
 | true => exact ⟨same_now h, Hi2.nil⟩
 | false => exact ⟨SameH.rfl' _, h⟩
theorem same_settle {la : List Bs} {lo : List (Int × Bs)} (h : Hi2 lo) (keep : List Int) : SameH la (settleS lo la keep) := by
 refine ⟨settle_len _ _ _, fun j hj => ?_⟩
 by_cases g : j < la.length
 ·
  rw [settle_at (fun n hn => by
   cases e : getB lo n with
   | none => rw [e] at hn; cases hn
   | some x => have := h _ (getB_some e); simp only at this; omega) j keep la g, h.get (by omega)]
  rw [if_neg (fun q => by cases q.2)]
 · rw [List.getElem?_eq_none (by rw [settle_len]; omega), List.getElem?_eq_none (by omega)]
theorem Hi2.write {lo : List (Int × Bs)} (h : Hi2 lo) (p : Pw) (k : Nat) {n : Int} (hn : 2 ≤ n) (s : Bs) : Hi2 (writeS p k lo n s) := by
 unfold writeS
 split
 ·
  intro q hq
  rcases putB_mem hq with rfl | hq
  · exact hn
  · exact h q hq
 · exact h
theorem aset_hi : ∀ (ps : List Pc) (d : Dv) (all : Bs), (∀ p ∈ ps, 2 ≤ p.sec) → Hi2 d.lo → Hi2 (asetD ps d all).2.lo
 | [], _, _, _, h => h
 | p :: ps, d, all, hp, h => by
  have h1 : Hi2 (d.wr p.sec (putA1 d.la d.lo p all)).lo := h.write _ _ (hp p List.mem_cons_self) _
  rw [asetD]
  split
  · exact aset_hi ps _ _ (fun q hq => hp q (List.mem_cons_of_mem _ hq)) h1
  · exact h1
theorem setA_hi {d : Dv} {n at_ : Int} {all : Bs} (hn : 1 ≤ n) (h : Hi2 d.lo) : Hi2 (setA d 2 n at_ all).2.lo := by
 unfold setA
 split
 ·
  split
  · exact h
  ·
   refine aset_hi _ _ _ (fun p hp => ?_) h
   exact (pieces_ok (fr := 2) (n := n) (by omega) _ _ _ (Int.emod_nonneg _ (by omega)) (Int.emod_lt_of_pos _ (by omega)) p hp).1
 · exact h
theorem syE_lo {d : Dv} (h : d.syE = 0) : d.syN.lo = [] := by
 unfold Dv.syE syncE at h
 unfold Dv.syN syncO
 split at h
 · rename_i g; simp only [g, if_true]
 · cases h
theorem flL_same {n : Int} {d : Dv} {v : StmS} (hn : 1 ≤ n) (h : d.lo = []) : SameH d.la (flL n d v).2.1.la ∧ Hi2 (flL n d v).2.1.lo ∧ ((flL n d v).1 = 0 → (flL n d v).2.1.lo = []) := by
 have h0 : Hi2 d.lo := by rw [h]; exact Hi2.nil
 unfold flL
 split
 · exact ⟨SameH.rfl' _, h0, fun _ => h⟩
 ·
  rename_i x hx
  have hi := setA_hi (d := d) (n := n) (at_ := x.at_) (all := (layB v.ep (v.l.drop v.flushed.toNat)).flatten) hn h0
  have hs := same_syN hi
  rw [setA_la] at hs
  unfold fl1
  split
  · rename_i g; exact ⟨by rw [setA_la]; exact SameH.rfl' _, hi, fun q => absurd q g⟩
  ·
   split
   · rename_i g; exact ⟨hs.1, hs.2, fun q => absurd q g⟩
   · rename_i g; exact ⟨hs.1, hs.2, fun _ => syE_lo (Classical.not_not.1 g)⟩
theorem wr_one {d : Dv} (hlo : d.lo = []) {h : Hd} (g : svOk h) (ha : atOk d.la.length 0) (hb : useB d.p = true) : d.wrE (svN 0 h) (hdL (hdUp h)) = 0 ∧ d.wr (svN 0 h) (hdL (hdUp h)) = ⟨useS d.p, d.la, [(svN 0 h, hdL (hdUp h))]⟩ := by
 have hl := hdU_len g
 obtain ⟨e1, e2⟩ := wr_on (d := d) (n := svN 0 h) (s := hdL (hdUp h)) (svN_in ⟨g, ha⟩) (by omega) hb
 refine ⟨e1, ?_⟩
 rw [e2, hlo, fill_full hl]; rfl
theorem now_one {la : List Bs} {n : Int} {s : Bs} (hn : inS n la.length) : nowS la [(n, s)] = la.set n.toNat s := by
 have := now_put (lo := []) s hn
 rw [now_nil] at this
 exact this.symm
theorem svD_crash {d : Dv} {h h0 : Hd} (hlo : d.lo = []) (hk : KpA d.la 0 h0) (hs : h.seq = h0.seq) (keep : List Int) :
  KpA (settleS (svD d 0 h).2.2.lo (svD d 0 h).2.2.la keep) 0 h0 ∨ KpA (settleS (svD d 0 h).2.2.lo (svD d 0 h).2.2.la keep) 0 (hdUp h) := by
 by_cases h1 : svOk h
 ·
  by_cases h2 : thE d.p d.la.length 0 = 0
  ·
   obtain ⟨ha, ho⟩ := thE_zero h2
   cases hb : useB d.p with
   | false =>
    obtain ⟨e1, e2⟩ := wr_off (d := d) (n := svN 0 h) (s := hdL (hdUp h)) hb
    rw [svD_w h1 h2 (by rw [e1]; decide), e2]
    show KpA (settleS d.lo d.la keep) 0 h0 ∨ _
    rw [hlo, settle_none]; exact .inl hk
   | true =>
    obtain ⟨e1, e2⟩ := wr_one hlo h1 ha hb
    have g : svTry d.la.length 0 h := ⟨h1, ha⟩
    by_cases h4 : (d.wr (svN 0 h) (hdL (hdUp h))).syE = 0
    ·
     rw [svD_ok h1 h2 e1 h4]
     rw [e2] at h4 ⊢
     have hu : useB (useS d.p) = true := by
      unfold Dv.syE syncE at h4
      split at h4
      · assumption
      · cases h4
     show KpA (settleS (syncO (useS d.p) _) (if useB (useS d.p) = true then nowS d.la [(svN 0 h, hdL (hdUp h))] else d.la) keep) 0 h0 ∨ KpA (settleS (syncO (useS d.p) _) (if useB (useS d.p) = true then nowS d.la [(svN 0 h, hdL (hdUp h))] else d.la) keep) 0 (hdUp h)
     unfold syncO
     rw [if_pos hu, if_pos hu, settle_none, now_one (svN_in g)]
     exact .inr (hk.set g hs)
    ·
     rw [svD_s h1 h2 e1 h4]
     rw [e2] at h4 ⊢
     have hu : ¬ useB (useS d.p) = true := by
      intro q
      unfold Dv.syE syncE at h4
      rw [if_pos q] at h4
      exact h4 rfl
     show KpA (settleS (syncO (useS d.p) [(svN 0 h, hdL (hdUp h))]) (if useB (useS d.p) = true then nowS d.la [(svN 0 h, hdL (hdUp h))] else d.la) keep) 0 h0 ∨ KpA (settleS (syncO (useS d.p) [(svN 0 h, hdL (hdUp h))]) (if useB (useS d.p) = true then nowS d.la [(svN 0 h, hdL (hdUp h))] else d.la) keep) 0 (hdUp h)
     unfold syncO
     rw [if_neg hu, if_neg hu]
     exact crash_kp hk g hs (.inr rfl) keep
  ·
   rw [svD_th h1 h2]
   show KpA (settleS d.lo d.la keep) 0 h0 ∨ _
   rw [hlo, settle_none]; exact .inl hk
 ·
  rw [svD_bad h1]
  show KpA (settleS d.lo d.la keep) 0 h0 ∨ _
  rw [hlo, settle_none]; exact .inl hk
theorem flS_crash {n : Int} {d : Dv} {v : StmS} (hn : 1 ≤ n) (hlo : d.lo = []) (hk : KpA d.la 0 v.hd) (mark : Int) (keep : List Int) :
  KpA ((flS n d v mark).2.1.cr keep).la 0 v.hd ∨ KpA ((flS n d v mark).2.1.cr keep).la 0 (hdUp { v.hd with mrk := mark }) := by
 obtain ⟨f1, f2, f3⟩ := flL_same (v := v) hn hlo
 have k1 := hk.same f1
 have hd := flL_hd (n := n) (v := v) d
 show KpA (settleS _ _ keep) 0 _ ∨ KpA (settleS _ _ keep) 0 _
 unfold flS
 split
 · rw [hlo, settle_none]; exact .inl hk
 ·
  split
  · rw [hlo, settle_none]; exact .inl hk
  ·
   unfold fl2
   split
   · exact .inl (k1.same (same_settle f2 keep))
   ·
    rename_i g
    split
    · exact .inl (k1.same (same_settle f2 keep))
    ·
     have := svD_crash (h := { v.hd with mrk := mark }) (h0 := v.hd) (f3 (Classical.not_not.1 g)) k1 rfl keep
     rw [hd]; exact this
theorem full_syN {d : Dv} (hl : LoOk d.lo d.la.length) (h : Full64 d.la) : Full64 d.syN.la := by
 unfold Dv.syN
 cases useB d.p with
 | true =>
  intro s hs
  obtain ⟨j, hj, rfl⟩ := List.mem_map.1 (show s ∈ (List.range d.la.length).map (nowAt d.la d.lo) from hs)
  exact nowAt_len h hl (List.mem_range.1 hj)
 | false => exact h
theorem full_svD {d : Dv} {h : Hd} (hl : LoOk d.lo d.la.length) (h64 : Full64 d.la) : Full64 (svD d 0 h).2.2.la := by
 have h1 : LoOk (d.wr (svN 0 h) (hdL (hdUp h))).lo (d.wr (svN 0 h) (hdL (hdUp h))).la.length := hl.write _ _ _
 unfold svD
 split
 · exact h64
 split
 · exact h64
 split
 · exact h64
 split
 · exact full_syN h1 h64
 · exact full_syN h1 h64
theorem full_flL {n : Int} {d : Dv} {v : StmS} (hl : LoOk d.lo d.la.length) (h64 : Full64 d.la) : Full64 (flL n d v).2.1.la := by
 unfold flL
 split
 · exact h64
 ·
  unfold fl1
  split
  · rw [setA_la]; exact h64
  ·
   split
   · exact full_syN (setA_lk hl) (by rw [setA_la]; exact h64)
   · exact full_syN (setA_lk hl) (by rw [setA_la]; exact h64)
theorem full_flS {n : Int} {d : Dv} {v : StmS} (hl : LoOk d.lo d.la.length) (h64 : Full64 d.la) (m : Int) : Full64 (flS n d v m).2.1.la := by
 unfold flS
 split
 · exact h64
 ·
  split
  · exact h64
  ·
   unfold fl2
   split
   · exact full_flL hl h64
   ·
    split
    · exact full_flL hl h64
    · exact full_svD (flL_lo hl) (full_flL hl h64)
theorem full_cr {d : Dv} (hl : LoOk d.lo d.la.length) (h64 : Full64 d.la) (keep : List Int) : Full64 (d.cr keep).la := full_settle hl keep _ h64
theorem cr_none {d : Dv} (h : d.lo = []) (keep : List Int) : d.cr keep = ⟨backS d.p, d.la, []⟩ := by
 unfold Dv.cr; rw [h, settle_none]
end Go.Q
namespace Go.Q
theorem svD_calm {d : Dv} {h : Hd} (hp : Pw1 d.p) (hlo : d.lo = []) (ha : atOk d.la.length 0) (g : svOk h) :
  svD d 0 h = (0, hdUp h, ⟨useS (useS d.p), d.la.set (svN 0 h).toNat (hdL (hdUp h)), []⟩) := by
 obtain ⟨b1, p1⟩ := hp.use
 obtain ⟨b2, p2⟩ := p1.use
 obtain ⟨e1, e2⟩ := wr_one hlo g ha b1
 rw [svD_ok g (thE_ok ha.1 ha.2 hp.1) e1 (by rw [e2]; unfold Dv.syE syncE; exact if_pos b2), e2]
 unfold Dv.syN syncO
 simp only [b2, if_true]
 rw [now_one (svN_in ⟨g, ha⟩)]
theorem svN_lt (h : Hd) : (svN 0 h).toNat < 2 := by
 unfold svN
 have := Int.emod_nonneg (h.seq + 1) (show (2 : Int) ≠ 0 by decide)
 have := Int.emod_lt_of_pos (h.seq + 1) (show (0 : Int) < 2 by decide)
 omega
theorem cn_set {r : Bs} {la : List Bs} {n m : Nat} {s : Bs} (h : Cn r la [] 2 n) (hm : m < 2) : Cn r (la.set m s) [] 2 n := by
 refine ⟨h.1, fun i hi => ?_⟩
 rw [h.2 i hi]
 unfold nowAt
 rw [List.getElem?_set_ne (by omega)]
theorem cn_ring {r : Bs} {d : Dv} {n : Int} (h : Cn r d.la d.lo 2 n.toNat) (h64 : Full64 d.la) (hlk : LoOk d.lo d.la.length) (hn : 1 ≤ n) (hln : (d.la.length : Int) = n + 2) : ringB d n 0 = r := by
 unfold ringB ringP
 exact getP_all (fr := 2) h (area_64 h64 hlk (by decide) hn (by omega)) (by decide) hn
theorem cn_ex {d : Dv} {n : Int} (h64 : Full64 d.la) (hlo : d.lo = []) (hn : 1 ≤ n) (hln : (d.la.length : Int) = n + 2) : Cn (ringB d n 0) d.la [] 2 n.toNat := by
 have hlk : LoOk d.lo d.la.length := by rw [hlo]; exact LoOk.nil _
 obtain ⟨now, h⟩ := area_now d.la d.lo 2 n.toNat (area_64 (fr := 2) h64 hlk (by decide) hn (by omega))
 rw [cn_ring h h64 hlk hn hln]
 rwa [hlo] at h
theorem aset_calm {n : Int} : ∀ (ps : List Pc) (d : Dv) (all : Bs), (∀ p ∈ ps, PcOk 2 n p) → (d.la.length : Int) = n + 2 → Full64 d.la → LoOk d.lo d.la.length → plen ps ≤ (all.length : Int) → Pw1 d.p →
  ∃ p', Pw1 p' ∧ asetD ps d all = (0, ⟨p', d.la, setP d.la ps d.lo all⟩)
 | [], d, all, _, _, _, _, _, hp => ⟨d.p, hp, rfl⟩
 | p :: ps, d, all, hk, hl, h64, hlk, hpl, hp => by
  have hk0 := hk p List.mem_cons_self
  obtain ⟨h1, h2, h3, h4, h5⟩ := id hk0
  have hpd := plen_drop (j := 0) (x := p) hk rfl
  have e : plen (p :: ps) = (p.upto - p.frm) + plen ps := rfl
  have nn : 0 ≤ plen ps := hpd.2
  have hs : inS p.sec d.la.length := ⟨by omega, by omega⟩
  have hl64 := put1_len (la := d.la) (lo := d.lo) (all := all) hk0 (nowAt_len h64 hlk (by omega)) (by omega)
  obtain ⟨b1, p1⟩ := hp.use
  obtain ⟨e1, e2⟩ := wr_on (d := d) (n := p.sec) (s := putA1 d.la d.lo p all) hs (by omega) b1
  obtain ⟨p', q1, q2⟩ := aset_calm ps ⟨useS d.p, d.la, putB d.lo p.sec (fillS (putA1 d.la d.lo p all))⟩ (all.drop (p.upto - p.frm).toNat) (fun q hq => hk q (List.mem_cons_of_mem _ hq)) hl h64 (hlk.put hs (fill_len (by omega))) (by rw [List.length_drop]; omega) p1
  refine ⟨p', q1, ?_⟩
  rw [asetD, if_pos e1, e2, q2]
  rfl
theorem wr_flat {r s : Bs} {a L : Nat} (hL : r.length = L) (h : a + s.length ≤ L) : wrR r a L s s.length = r.take a ++ (s ++ r.drop (a + s.length)) := by
 refine List.ext_getElem? fun i => ?_
 by_cases hi : i < L
 ·
  rw [wrR_at hL s.length h i hi]
  by_cases h1 : i < a
  · rw [if_neg (by omega), List.getElem?_append_left (by rw [List.length_take]; omega), List.getElem?_take, if_pos h1]
  ·
   rw [List.getElem?_append_right (by rw [List.length_take]; omega), List.length_take, show min a r.length = a by omega]
   by_cases h2 : i < a + s.length
   · rw [if_pos (by omega), List.getElem?_append_left (by omega), List.getElem?_eq_getElem (by omega)]; rfl
   ·
    rw [if_neg (by omega), List.getElem?_append_right (by omega), List.getElem?_drop]
    congr 1; omega
 · rw [List.getElem?_eq_none (by rw [wrR_len]; omega), List.getElem?_eq_none (by simp only [List.length_append, List.length_take, List.length_drop]; omega)]
theorem fr_back (ep : Int) (l : List LEnt) : (l.map (frOf ep)).map entF = l := by
 rw [List.map_map]
 calc l.map (entF ∘ frOf ep) = l.map id := by congr 1
  _ = l := List.map_id _
theorem lay_eq (ep : Int) (l : List LEnt) : layB ep l = (l.map (frOf ep)).map makeS := by unfold layB; rw [List.map_map]; rfl
section
variable {n : Int} {d : Dv} {v : StmS} {r : Bs} {fa : Int}
theorem ent_right (hok : StmOk n v) (hst : v.st = 0) : ∀ e ∈ v.l, rightS (frOf v.ep e) = true := by
 intro e he
 have h1 := hok.lay.mem he
 have h2 := hok.gsn e he
 have h3 := hok.dat e he
 have h4 := hok.ep
 have h5 := hok.tail
 have h6 := hok.num
 rw [hst] at h1 h5
 exact decide_eq_true ⟨h4.1, h4.2, h1.1, by show e.at_ ≤ _; omega, h2.1, h2.2, h3⟩
theorem flL_calm (hp : Pw1 d.p) (hlo : d.lo = []) (h64 : Full64 d.la) (hln : (d.la.length : Int) = n + 2) (hok : StmOk n v) (hst : v.st = 0) (hc : Cn r d.la [] 2 n.toNat)
  (h1 : LaidE 0 (v.l.take v.flushed.toNat) fa) (h2 : LaidE fa (v.l.drop v.flushed.toNat) v.tail) :
  ∃ d' f', flL n d v = (0, d', { v with flushed := f' }) ∧ Pw1 d'.p ∧ d'.lo = [] ∧ SameH d.la d'.la ∧ Full64 d'.la ∧
   Cn (r.take fa.toNat ++ ((layB v.ep (v.l.drop v.flushed.toNat)).flatten ++ r.drop v.tail.toNat)) d'.la [] 2 n.toNat := by
 have hn := hok.num
 have ht := hok.tail
 have hfa := h1.le
 have hrt := hok.fl
 rw [hst] at ht
 cases hx : v.l[v.flushed.toNat]? with
 | none =>
  have hle : v.l.length ≤ v.flushed.toNat := by simpa using hx
  have hz : v.l.drop v.flushed.toNat = [] := List.drop_of_length_le hle
  rw [hz] at h2 ⊢
  have e2 : v.tail = fa := h2
  refine ⟨d, v.flushed, flL_none (by omega), hp, hlo, SameH.rfl' _, h64, ?_⟩
  rw [e2]
  simpa [layB] using hc
 | some x =>
  have hdx : v.l.drop v.flushed.toNat = x :: v.l.drop (v.flushed.toNat + 1) := drop_of hx
  have hxa : x.at_ = fa := by rw [hdx] at h2; exact h2.1
  have hmx : x ∈ v.l := List.mem_of_getElem? hx
  have hxm := hok.lay.mem hmx
  rw [hst] at hxm
  have hsz : (((layB v.ep (v.l.drop v.flushed.toNat)).flatten.length : Nat) : Int) = v.tail - fa := by
   rw [lay_eq]
   exact laid_size (by rw [fr_back]; exact h2) (fun f hf => by
    obtain ⟨e, he, rfl⟩ := List.mem_map.1 hf
    exact ent_right hok hst e (List.mem_of_mem_drop he))
  generalize hall : (layB v.ep (v.l.drop v.flushed.toNat)).flatten = all at *
  have hmay : mayA n x.at_ (all.length : Int) := ⟨by omega, by omega, by omega, by omega⟩
  have hmod : x.at_ % (n * 64) = fa := by rw [hxa]; exact Int.emod_eq_of_lt (by omega) (by omega)
  have hlk : LoOk d.lo d.la.length := by rw [hlo]; exact LoOk.nil _
  obtain ⟨p', q1, q2⟩ := aset_calm (n := n) (ringP 2 n x.at_ (all.length : Int)) d all (pieces_ok (fr := 2) (n := n) (by omega) _ _ _ (by omega) (by omega)) hln h64 hlk (by
   unfold ringP allP
   rw [pieces_len (by omega) _ _ _ (by omega) (by omega) (Nat.le_refl _)]
   exact Int.le_refl _) hp
  have hS : setA d 2 n x.at_ all = (0, ⟨p', d.la, setP d.la (ringP 2 n x.at_ (all.length : Int)) d.lo all⟩) := by
   unfold setA
   rw [if_pos hmay, if_neg (by rw [hp.1]; decide), q2]
  have hlk2 : LoOk (setA d 2 n x.at_ all).2.lo (setA d 2 n x.at_ all).2.la.length := setA_lk hlk
  rw [hS] at hlk2
  obtain ⟨b1, p1⟩ := q1.use
  have hcn := setP_now (la := d.la) (lo := []) (fr := 2) (n := n) (a := fa) (all := all) hc (area_64 (fr := 2) h64 (LoOk.nil _) (by decide) hn.1 (by omega)) (by decide) hn.1 ⟨by omega, by omega⟩
  have hpe : setP d.la (ringP 2 n x.at_ (all.length : Int)) d.lo all = setP d.la (allP 2 (n * 64) fa (all.length : Int)) [] all := by
   unfold ringP; rw [hmod, hlo]
  rw [hpe] at hS hlk2
  have hhi : Hi2 (setA d 2 n x.at_ all).2.lo := setA_hi hn.1 (by rw [hlo]; exact Hi2.nil)
  rw [hS] at hhi
  have hrl := hc.1
  refine ⟨⟨useS p', nowS d.la (setP d.la (allP 2 (n * 64) fa (all.length : Int)) [] all), []⟩, v.l.length, ?_, p1, rfl, same_now hhi, ?_, ?_⟩
  ·
   rw [flL_some hx, hall, hS, fl1_ok rfl (by unfold Dv.syE syncE; exact if_pos b1)]
   unfold Dv.syN syncO
   simp only [b1, if_true]
  ·
   intro s hs
   obtain ⟨j, hj, rfl⟩ := List.mem_map.1 hs
   exact nowAt_len h64 hlk2 (List.mem_range.1 hj)
  ·
   have e : wrR r fa.toNat (n.toNat * 64) all all.length = r.take fa.toNat ++ (all ++ r.drop v.tail.toNat) := by
    rw [wr_flat (by omega) (by omega)]
    congr 3; omega
   rw [e] at hcn
   refine ⟨hcn.1, fun i hi => ?_⟩
   rw [hcn.2 i hi]
   have hj : 2 + i / 64 < d.la.length := by omega
   show _ = (nowAt (nowS d.la _) [] (2 + i / 64))[i % 64]?
   have : nowAt (nowS d.la (setP d.la (allP 2 (n * 64) fa (all.length : Int)) [] all)) [] (2 + i / 64) = nowAt d.la (setP d.la (allP 2 (n * 64) fa (all.length : Int)) [] all) (2 + i / 64) := by
    show Option.getD none _ = _
    rw [Option.getD_none, now_get hj]; rfl
   rw [this]; rfl
theorem hd_right (hok : StmOk n v) {m : Int} (hm : 0 ≤ m ∧ m ≤ 4611686018427387903) : hdR { v.hd with mrk := m } = true :=
 decide_eq_true ⟨hok.seq, hok.ep, hok.cut, hok.st, hm⟩
theorem flS_calm (hp : Pw1 d.p) (hlo : d.lo = []) (h64 : Full64 d.la) (hln : (d.la.length : Int) = n + 2) (hok : StmOk n v) (hst : v.st = 0) (hc : Cn r d.la [] 2 n.toNat)
  (h1 : LaidE 0 (v.l.take v.flushed.toNat) fa) (h2 : LaidE fa (v.l.drop v.flushed.toNat) v.tail) (hk : KpA d.la 0 v.hd) (her : v.err = 0) (hct : v.cut = true) (hsq : v.seq < 4611686018427387903) :
  (flS n d v (lastV v)).1 = 0 ∧ (flS n d v (lastV v)).2.1.lo = [] ∧ Full64 (flS n d v (lastV v)).2.1.la ∧
   Cn (r.take fa.toNat ++ ((layB v.ep (v.l.drop v.flushed.toNat)).flatten ++ r.drop v.tail.toNat)) (flS n d v (lastV v)).2.1.la [] 2 n.toNat ∧
   ∃ h, KpA (flS n d v (lastV v)).2.1.la 0 h ∧ h.ep = v.ep ∧ h.cut = v.hcut ∧ h.st = v.st := by
 obtain ⟨d', f', e, p', l', s', f64, cn⟩ := flL_calm hp hlo h64 hln hok hst hc h1 h2
 have hn := hok.num
 obtain ⟨la1, la2, la3⟩ := last_le hok
 have hr : readyE v = 0 := by unfold readyE; rw [her, hct]; rfl
 have k' := hk.same s'
 rw [flS_go hr (by omega), e]
 by_cases hm : lastV v = v.mrk
 ·
  rw [fl2_same (mark := lastV v) (r := (0, d', { v with flushed := f' })) rfl hm]
  exact ⟨rfl, l', f64, cn, v.hd, k', rfl, rfl, rfl⟩
 ·
  rw [fl2_save (mark := lastV v) (r := (0, d', { v with flushed := f' })) rfl hm]
  have ha : atOk d'.la.length 0 := ⟨by decide, by have := s'.1; omega⟩
  have g : svOk { v.hd with mrk := lastV v } := ⟨⟨hok.seq.1, hsq⟩, hd_right hok ⟨la1, la2⟩⟩
  have es := svD_calm (h := { v.hd with mrk := lastV v }) p' l' ha g
  show (svD d' 0 { v.hd with mrk := lastV v }).1 = 0 ∧ (svD d' 0 { v.hd with mrk := lastV v }).2.2.lo = [] ∧ Full64 (svD d' 0 { v.hd with mrk := lastV v }).2.2.la ∧ Cn _ (svD d' 0 { v.hd with mrk := lastV v }).2.2.la [] 2 n.toNat ∧ ∃ h, KpA (svD d' 0 { v.hd with mrk := lastV v }).2.2.la 0 h ∧ h.ep = v.ep ∧ h.cut = v.hcut ∧ h.st = v.st
  rw [es]
  exact ⟨rfl, rfl, set_64 f64 g, cn_set cn (svN_lt _), _, k'.set ⟨g, ha⟩ rfl, rfl, rfl, rfl⟩
end
end Go.Q
namespace Go.Q
structure Grw (v w : StmS) : Prop where
 hd : w.hd = v.hd
 l : ∃ new, w.l = v.l ++ new
 fl : w.flushed = v.flushed
 cut : w.cut = v.cut
 err : w.err = v.err
theorem Grw.refl (v : StmS) : Grw v v := ⟨rfl, ⟨[], (List.append_nil _).symm⟩, rfl, rfl, rfl⟩
theorem Grw.ap {n : Int} {v w : StmS} (h : Grw v w) (g : Int) (s : Bs) : Grw v (apS n w g s) := by
 unfold apS
 split
 ·
  obtain ⟨h1, ⟨new, h2⟩, h3, h4, h5⟩ := h
  exact ⟨h1, ⟨new ++ [⟨g, w.tail, s⟩], by show w.l ++ _ = _; rw [h2, List.append_assoc]⟩, h3, h4, h5⟩
 · exact h
theorem LaidE.split : ∀ {l m : List LEnt} {a t u : Int}, LaidE a (l ++ m) u → LaidE a l t → LaidE t m u
 | [], m, a, t, u, h, g => by have e : t = a := g; rw [e]; exact h
 | x :: l, m, a, t, u, h, g => LaidE.split (l := l) h.2 g.2
theorem posE_take : ∀ {l : List LEnt} {g : Int}, RisesE l → ∀ e ∈ l.take (posE l g).toNat, e.gsn < g
 | [], g, _, e, he => by simp at he
 | a :: l, g, hr, e, he => by
  obtain ⟨h1, h2⟩ := List.pairwise_cons.1 hr
  by_cases q : a.gsn < g
  ·
   have hp : (posE (a :: l) g).toNat = (posE l g).toNat + 1 := by
    unfold posE
    rw [List.filter_cons_of_pos (by simpa using q), List.length_cons]; omega
   rw [hp, List.take_succ_cons] at he
   rcases List.mem_cons.1 he with rfl | he
   · exact q
   · exact posE_take h2 e he
  ·
   have hp : (posE (a :: l) g).toNat = 0 := by
    unfold posE
    rw [List.filter_eq_nil_iff.2 (fun b hb => by
     rcases List.mem_cons.1 hb with rfl | hb
     · simpa using q
     · have := h1 b hb; simp; omega)]; rfl
   rw [hp] at he; simp at he
theorem posE_all {l : List LEnt} {g : Int} (h : ∀ e ∈ l, e.gsn < g) : posE l g = l.length := by
 unfold posE; rw [List.filter_eq_self.2 (fun e he => decide_eq_true (h e he))]
theorem op_of {d : Dv} {n : Int} {h : Hd} {r : Bs} (hk : KpA d.la 0 h) (ha : atOk d.la.length 0) (hp : d.p.off = false) (hs : h.st = 0) (hr : ringB d n 0 = r) :
  ldE d.p d.la 0 = 0 ∧ ldH d.p d.la 0 = h ∧ opC d n = chainS h.ep h.cut (r.length + 1) r 0 (-1) := by
 obtain ⟨e1, e2⟩ := hk.ld ha hp
 refine ⟨e2, e1, ?_⟩
 unfold opC; rw [e1, hs, hr]
section
variable {n last : Int} {d : Dv} {h : Hd}
theorem op_one (hn : 1 ≤ n) (hln : (d.la.length : Int) = n + 2) (hp : d.p.off = false) (hk : KpA d.la 0 h) (he : h.ep = 1) (hc : h.cut = 0) (hs : h.st = 0) :
  opE d n = 0 ∧ ldH d.p d.la 0 = h ∧ opC d n = chainS 1 0 ((ringB d n 0).length + 1) (ringB d n 0) 0 (-1) := by
 have ha : atOk d.la.length 0 := ⟨by decide, by omega⟩
 obtain ⟨e1, e2, e3⟩ := op_of (n := n) hk ha hp hs rfl
 rw [he, hc] at e3
 have hcc := (chain_count 1 0 ((ringB d n 0).length + 1) (ringB d n 0) 0 (-1)).2.2
 refine ⟨opE_ok e1 ?_, e2, e3⟩
 rw [e2, e3]; omega
theorem ct_calm (hn : 1 ≤ n ∧ n ≤ 4094) (hln : (d.la.length : Int) = n + 2) (hp : Pw1 d.p) (hlo : d.lo = []) (h64 : Full64 d.la) (hk : KpA d.la 0 h) (he : h.ep = 1) (hc : h.cut = 0) (hs : h.st = 0) (hsq : h.seq < 4611686018427387902)
  (hl : 0 ≤ last ∧ last ≤ 4611686018427387903) {R : Int × Dv × StmS} (hR : R = ctS d (opS d n) last) :
  R.1 = 0 ∧ R.2.1.lo = [] ∧ Pw1 R.2.1.p ∧ Full64 R.2.1.la ∧ R.2.1.la.length = d.la.length ∧ Cn (ringB d n 0) R.2.1.la [] 2 n.toNat ∧ KpA R.2.1.la 0 R.2.2.hd ∧ StmOk n R.2.2 ∧
   (R.2.2.ep = 2 ∧ R.2.2.st = 0 ∧ R.2.2.hcut = R.2.2.tail ∧ R.2.2.err = 0 ∧ R.2.2.cut = true ∧ R.2.2.flushed = R.2.2.l.length ∧ R.2.2.seq < 4611686018427387903 ∧ R.2.2.mrk = last) ∧
   (∀ e ∈ R.2.2.l, e.gsn ≤ last) ∧ ∃ k, R.2.2.l = ((opC d n).1.take k).map entF := by
 obtain ⟨o1, o2, o3⟩ := op_one (n := n) hn.1 hln hp.1 hk he hc hs
 have hlk : LoOk d.lo d.la.length := by rw [hlo]; exact LoOk.nil _
 have hok := opS_ok hn h64 hlk hln o1
 have hkk := ctS_ok hok d last
 have hpl := posE_le (opS d n).l (last + 1)
 have e1 : (opS d n).ep = 1 := by show (ldH d.p d.la 0).ep = 1; rw [o2]; exact he
 have e2 : (opS d n).st = 0 := by show (ldH d.p d.la 0).st = 0; rw [o2]; exact hs
 have e3 : (opS d n).seq = h.seq := by show (ldH d.p d.la 0).seq = _; rw [o2]
 have ha : atOk d.la.length 0 := ⟨by decide, by omega⟩
 have hseq := hok.seq
 have htl := hok.tail
 rw [e2] at htl
 generalize hKd : (posE (opS d n).l (last + 1)).toNat = k at *
 have hct : 0 ≤ cutTail (opS d n) k ∧ cutTail (opS d n) k ≤ (opS d n).tail := by
  unfold cutTail
  split
  · have := hok.le; rw [e2] at this; omega
  ·
   rename_i x hx
   have := hok.lay.mem (List.mem_of_getElem? hx)
   rw [e2] at this; omega
 have g : svOk (ctH (opS d n) last k) := by
  refine ⟨⟨hseq.1, by show (opS d n).seq < _; omega⟩, decide_eq_true ⟨hseq, ⟨by show 0 ≤ (opS d n).ep + 1; omega, by show (opS d n).ep + 1 ≤ _; omega⟩, ⟨hct.1, by show cutTail (opS d n) k ≤ _; omega⟩, ⟨by show 0 ≤ (opS d n).st; omega, by show (opS d n).st ≤ _; omega⟩, hl⟩⟩
 have es := svD_calm (h := ctH (opS d n) last k) hp hlo ha g
 have hC : R = (0, ⟨useS (useS d.p), d.la.set (svN 0 (ctH (opS d n) last k)).toNat (hdL (hdUp (ctH (opS d n) last k))), []⟩,
   ⟨(opS d n).seq + 1, (opS d n).ep + 1, cutTail (opS d n) k, (opS d n).st, last, (opS d n).l.take k, cutTail (opS d n) k, posE (opS d n).l (last + 1), 0, true, 0⟩) := by
  rw [hR]
  unfold ctS
  rw [if_neg (fun q => q rfl), if_neg (show ¬ (opS d n).cut = true from fun q => by cases q), if_neg (by omega), if_neg (by omega), hKd]
  have e0 : saveS d (opS d n) (ctH (opS d n) last k) = (0, ⟨useS (useS d.p), d.la.set (svN 0 (ctH (opS d n) last k)).toNat (hdL (hdUp (ctH (opS d n) last k))), []⟩, (opS d n).put (hdUp (ctH (opS d n) last k))) := by
   unfold saveS; rw [es]; rfl
  rw [e0, if_neg (fun q => q rfl)]
  rfl
 rw [← hR] at hkk
 subst hC
 refine ⟨rfl, rfl, hp.use.2.use.2, set_64 h64 g, by simp, cn_set (cn_ex h64 hlo hn.1 hln) (svN_lt _), ?_, hkk, ⟨?_, e2, rfl, rfl, rfl, ?_, ?_, rfl⟩, ?_, k, ?_⟩
 · exact hk.set (h' := ctH (opS d n) last k) ⟨g, ha⟩ e3
 · show (opS d n).ep + 1 = 2; omega
 ·
  show posE (opS d n).l (last + 1) = (((opS d n).l.take k).length : Int)
  rw [List.length_take]; omega
 · show (opS d n).seq + 1 < _; omega
 ·
  intro e hE
  have := posE_take (g := last + 1) hok.rise e (by rw [hKd]; exact hE)
  omega
 ·
  show ((opC d n).1.map entF).take k = _
  rw [List.map_take]
theorem cuts_again {r5 : Bs} {d5 : Dv} {h5 : Hd} {v w : StmS} (hn : 1 ≤ n ∧ n ≤ 4094) (hln : (d.la.length : Int) = n + 2) (hp : d.p.off = false) (hlo : d.lo = []) (h64 : Full64 d.la) (hk : KpA d.la 0 h) (he : h.ep = 1) (hc : h.cut = 0) (hs : h.st = 0)
  (hP : Pst (ringB d n 0) 1 (ringB d n 0).length) (hv : StmOk n v) (hvs : v.st = 0) (hve : v.ep = 2) {k : Nat} (hvl : v.l = ((opC d n).1.take k).map entF) (hvf : v.flushed = v.l.length)
  (hg : Grw v w) (hw : StmOk n w) (hln5 : (d5.la.length : Int) = n + 2) (hp5 : d5.p.off = false) (hlo5 : d5.lo = []) (h645 : Full64 d5.la) (hk5 : KpA d5.la 0 h5) (he5 : h5.ep = 2) (hc5 : h5.cut = v.tail) (hs5 : h5.st = 0)
  (hcn : Cn r5 d5.la [] 2 n.toNat) (hr5 : r5 = (ringB d n 0).take v.tail.toNat ++ ((layB 2 (w.l.drop v.flushed.toNat)).flatten ++ (ringB d n 0).drop w.tail.toNat)) :
  opE d5 n = 0 ∧ (opS d5 n).l = w.l := by
 obtain ⟨o1, o2, o3⟩ := op_one (n := n) hn.1 hln hp hk he hc hs
 have hlk : LoOk d.lo d.la.length := by rw [hlo]; exact LoOk.nil _
 have hlk5 : LoOk d5.lo d5.la.length := by rw [hlo5]; exact LoOk.nil _
 have hrl := ringB_len (at_ := 0) h64 hlk hn.1 hln
 obtain ⟨new, hnew⟩ := hg.l
 have hwst : w.st = 0 := by have := congrArg Hd.st hg.hd; exact this.trans hvs
 have hwep : w.ep = 2 := by have := congrArg Hd.ep hg.hd; exact this.trans hve
 have hwt := hw.tail
 rw [hwst] at hwt
 have hvlay := hv.lay
 have hwlay := hw.lay
 rw [hvs] at hvlay
 rw [hwst, hnew] at hwlay
 have hnlay := hwlay.split hvlay
 have hdrop : w.l.drop v.flushed.toNat = new := by rw [hnew, hvf, show ((v.l.length : Nat) : Int).toNat = v.l.length from rfl, List.drop_left]
 rw [hdrop] at hr5
 have hv0 := hvlay.le
 have hn0 := hnlay.le
 have hch := chain_chn 1 0 ((ringB d n 0).length + 1) (ringB d n 0) 0 (-1)
 have hby := chain_bytes 1 0 ((ringB d n 0).length + 1) (ringB d n 0) 0 (-1)
 rw [← o3] at hch hby
 generalize hF : (opC d n).1 = F at *
 generalize hr3 : ringB d n 0 = r3 at *
 have hKr : ∀ f ∈ F.take k, rightS f = true := fun f hf => (hch f (List.mem_of_mem_take hf)).1
 have hKb : r3.take v.tail.toNat = ((F.take k).map makeS).flatten := by
  have hz := laid_size (L := F.take k) (a := 0) (t := v.tail) (by rw [← hvl]; exact hvlay) hKr
  have e : r3 = ((F.take k).map makeS).flatten ++ (((F.drop k).map makeS).flatten ++ r3.drop ((opC d n).2 - 0).toNat) := by
   rw [← List.append_assoc, ← List.flatten_append, ← List.map_append, List.take_append_drop]; exact hby
  rw [e, show v.tail.toNat = ((F.take k).map makeS).flatten.length by omega, List.take_left]
 have hmapL : (F.take k ++ new.map (frOf 2)).map entF = w.l := by rw [List.map_append, fr_back, hnew, hvl]
 have hflat : r5 = ((F.take k ++ new.map (frOf 2)).map makeS).flatten ++ r3.drop w.tail.toNat := by
  rw [hr5, hKb, lay_eq, List.map_append, List.flatten_append, List.append_assoc]
 have hr5l : r5.length = (n * 64).toNat := by rw [hcn.1]; omega
 have hcl := hw.lay.le
 rw [hwst] at hcl
 have hring5 : ringB d5 n 0 = r5 := by
  have hcn2 := hcn
  rw [← hlo5] at hcn2
  exact cn_ring hcn2 h645 hlk5 hn.1 hln5
 have ha5 : atOk d5.la.length 0 := ⟨by decide, by omega⟩
 obtain ⟨q1, q2, q3⟩ := op_of (n := n) hk5 ha5 hp5 hs5 hring5
 rw [he5, hc5] at q3
 have hll : (F.take k ++ new.map (frOf 2)).length = w.l.length := by rw [← hmapL, List.length_map]
 obtain ⟨ab', hm⟩ := chain_made 2 v.tail (F.take k ++ new.map (frOf 2)) (r5.length + 1) (r3.drop w.tail.toNat) 0 (-1) w.tail (by omega) (by rw [hmapL]; have := hw.lay; rwa [hwst] at this) (by
   intro f hf
   rcases List.mem_append.1 hf with hf | hf
   ·
    obtain ⟨c1, c2, c3⟩ := hch f (List.mem_of_mem_take hf)
    have := hvlay.mem (show entF f ∈ v.l by rw [hvl]; exact List.mem_map_of_mem hf)
    have e : (entF f).at_ = f.pl := rfl
    rw [e] at this
    exact ⟨c1, by omega, .inl (by omega)⟩
   ·
    obtain ⟨e, hE, rfl⟩ := List.mem_map.1 hf
    have := ent_right hw hwst e (by rw [hnew]; exact List.mem_append_right _ hE)
    rw [hwep] at this
    exact ⟨this, Int.le_refl _, .inr rfl⟩) (by
   intro f hf
   have := hw.gsn (entF f) (by rw [← hmapL]; exact List.mem_map_of_mem hf)
   have e : (entF f).gsn = f.gsn := rfl
   omega) (by rw [hmapL]; exact hw.rise)
 have hst := Pst.stop (cut := v.tail) hP rfl (t := w.tail.toNat) (by omega) ab'
 rw [show ((w.tail.toNat : Nat) : Int) = w.tail by omega] at hst
 rw [chain_stop hst, List.append_nil, ← hflat, ← q3] at hm
 refine ⟨opE_ok q1 ?_, ?_⟩
 ·
  rw [q2, hm, he5, hc5, hs5]
  simp only
  omega
 ·
  show (opC d5 n).1.map entF = w.l
  rw [hm]; exact hmapL
end
end Go.Q
namespace Go.Q
def ringT (la : List Bs) : Bs := (la.drop 2).flatten
theorem lasts_sec {la : List Bs} {n : Int} (hn : inS n la.length) : lastsS la n = sec la n := by unfold lastsS sec; rw [if_pos hn]
theorem lastsT_at {la : List Bs} {i : Nat} (h : i < la.length) : lastsS la (i : Int) = la[i] := by
 rw [lasts_sec ⟨by omega, by omega⟩]; unfold sec
 rw [show ((i : Int)).toNat = i from rfl, List.getElem?_eq_getElem h]; rfl
theorem lasts_le {la : List Bs} (h64 : Full64 la) (n : Int) : (lastsS la n).length ≤ 64 := by
 by_cases h : inS n la.length
 · rw [lasts_sec h, sec_len h64 h]; exact Nat.le_refl _
 · unfold lastsS; rw [if_neg h]; exact Nat.zero_le _
theorem ringT_step {la : List Bs} {acc : Bs} {i : Nat} (h2 : 2 ≤ i) (hi : i < la.length) (ha : acc = ((la.take i).drop 2).flatten) : acc ++ lastsS la (i : Int) = ((la.take (i + 1)).drop 2).flatten := by
 rw [zS (List.getElem?_eq_getElem hi), List.drop_append_of_le_length (by rw [List.length_take]; omega), List.flatten_append, ← ha, lastsT_at hi]; simp
theorem ringT_all {la : List Bs} {acc : Bs} {i : Nat} (h : i = la.length) (ha : acc = ((la.take i).drop 2).flatten) : acc = ringT la := by
 rw [ha, h, List.take_of_length_le (Nat.le_refl _)]; rfl
theorem flat64_len : ∀ (l : List Bs), Full64 l → l.flatten.length = 64 * l.length
 | [], _ => rfl
 | s :: l, h => by
  rw [List.flatten_cons, List.length_append, h s List.mem_cons_self, flat64_len l (fun t ht => h t (List.mem_cons_of_mem _ ht)), List.length_cons]; omega
theorem flat64_get : ∀ (l : List Bs), Full64 l → ∀ i, i < 64 * l.length → l.flatten[i]? = ((l[i / 64]?).getD [])[i % 64]?
 | [], _, i, h => by simp at h
 | s :: l, h, i, hi => by
  have hs := h s List.mem_cons_self
  rw [List.length_cons] at hi
  rw [List.flatten_cons]
  by_cases g : i < 64
  · rw [List.getElem?_append_left (by omega), show i / 64 = 0 by omega, Nat.mod_eq_of_lt g]; rfl
  · rw [List.getElem?_append_right (by omega), hs, flat64_get l (fun t ht => h t (List.mem_cons_of_mem _ ht)) (i - 64) (by omega), show i / 64 = (i - 64) / 64 + 1 by omega, show i % 64 = (i - 64) % 64 by omega]; rfl
theorem full_drop {la : List Bs} (h : Full64 la) (k : Nat) : Full64 (la.drop k) := fun s hs => h s (List.mem_of_mem_drop hs)
theorem ringT_len {la : List Bs} (h : Full64 la) : (ringT la).length = 64 * (la.length - 2) := by
 unfold ringT; rw [flat64_len _ (full_drop h 2), List.length_drop]
theorem ringT_cn {la : List Bs} {n : Nat} (h : Full64 la) (hn : la.length = n + 2) : Cn (ringT la) la [] 2 n := by
 refine ⟨by rw [ringT_len h, hn]; omega, fun i hi => ?_⟩
 unfold ringT
 rw [flat64_get _ (full_drop h 2) i (by rw [List.length_drop]; omega), List.getElem?_drop]
 unfold nowAt; rfl
theorem ringT_ring {d : Dv} {n : Int} (hlo : d.lo = []) (h64 : Full64 d.la) (hn : 1 ≤ n) (hln : (d.la.length : Int) = n + 2) : ringT d.la = ringB d n 0 := by
 have hc := ringT_cn (n := n.toNat) h64 (by omega)
 rw [← hlo] at hc
 exact (cn_ring hc h64 (by rw [hlo]; exact LoOk.nil _) hn hln).symm
theorem ldD_ld {p : Pw} {la : List Bs} (hp : p.off = false) (hl : 2 ≤ la.length) : ldH p la 0 = (ldD (lastsS la 0) (lastsS la 1)).1 ∧ ldE p la 0 = (ldD (lastsS la 0) (lastsS la 1)).2 := by
 have ha : atOk la.length 0 := ⟨by decide, by omega⟩
 rw [lasts_sec (n := 0) ⟨by decide, by omega⟩, lasts_sec (n := 1) ⟨by decide, by omega⟩, ← ld_eq]
 unfold ldH ldE
 rw [if_pos ⟨ha, hp⟩, if_pos ha, if_pos hp]; exact ⟨rfl, rfl⟩
theorem ldD_R {s t : Bs} (h : (ldD s t).2 = 0) : hdR (ldD s t).1 = true := by rw [← ld_eq] at h ⊢; exact ldP_R h
structure RowV (α : Type) where
 v : Value
 l : List α
def rvC {α : Type} (x : RowV α) : Value := x.v
def PstD (la : List Bs) : Prop := (ldD (lastsS la 0) (lastsS la 1)).2 = 0 → Pst (ringT la) (ldD (lastsS la 0) (lastsS la 1)).1.ep (ringT la).length
def FrsOk (F : List Fr) : Prop := ∀ f ∈ F, rightS f = true
theorem FrsOk.nil : FrsOk [] := fun f hf => by cases hf
theorem FrsOk.chain (ep cut : Int) (n : Nat) (s : Bs) (pl ab : Int) : FrsOk (chainS ep cut n s pl ab).1 := fun f hf => (chain_chn ep cut n s pl ab f hf).1
theorem one_rvC {α : Type} (l : List (RowV α)) (h : ∀ x ∈ l, x.v.oneCell' = true) : ∀ u ∈ l.map rvC, u.oneCell' = true := fun u hu => by
 obtain ⟨x, hx, rfl⟩ := List.mem_map.1 hu; exact h x hx
end Go.Q
namespace Go.Q
theorem sl_one {L : List Hp} {k : Nat} {v : Value} {n : Nat} {cs : List Value} (h : Sl L k v n cs) : v.oneCell' = true := by
 obtain ⟨p, c, e, _⟩ := h
 rw [e]; rfl
theorem sl_one1 {α : Type} {L : List Hp} {k : Nat} {x : RowV α} {n : Nat} {cs : List Value} (h : Sl L k x.v n cs) : ∀ u ∈ [x].map rvC, u.oneCell' = true := one_rvC _ fun y hy => by
 rw [List.mem_singleton.1 hy]; exact sl_one h
end Go.Q
namespace Go.Q
def ptC (b : Nat) : Value := .pointer (some ⟨b, 0, none⟩)
end Go.Q
namespace Go.Q
theorem plc_step {s : Bs} {a j : Nat} {c : UInt8} {pl : Int} (hj : 5 ≤ j) (hx : s[((a : Int) + (j : Int)).toNat]? = some c) (h : pl = plcN s a (j - 5)) : IntKind.wrap .i64 (IntKind.wrap .i64 (pl * 256) + (c.toNat : Int)) = plcN s a (j + 1 - 5) := by
 rw [show j + 1 - 5 = (j - 5) + 1 by omega, plcN, ← h, show a + 5 + (j - 5) = ((a : Int) + (j : Int)).toNat by omega, hx]; rfl
theorem oF_right {s : Bs} (h : opensB s = true) : rightS (oF s) = true := by
 have e : oF s = fO s := by unfold oF; rw [if_pos h]
 rw [e]; exact (opens_made h).1
end Go.Q
namespace Go.Q
open Go.Proofs
theorem calls_name {α : Type} (f : α → Value) (x : α) {P : Program} {k : FuncId} {args : Array Value} {w : World} {Q : World → Prop} (h : Calls P k args w fun e w' => e = .returned (f x) ∧ Q w') :
  Calls P k args w fun e w' => ∃ y, y = x ∧ e = .returned (f y) ∧ Q w' := h.mono fun e w' g => ⟨x, rfl, g⟩
end Go.Q
namespace Go.Q
def s8d0 : Dv := ⟨Pw.mk false false 0 0, List.replicate 6 blankS, []⟩
def s8d1 : Dv := (fmS s8d0).2.2
def s8v1 : StmS := fmV (fmS s8d0).2.1
def s8v2 : StmS := apS 4 s8v1 1 [97]
def s8v3 : StmS := apS 4 s8v2 2 [98, 99]
def s8d2 : Dv := (flS 4 s8d1 s8v3 2).2.1
def s8v4 : StmS := (flS 4 s8d1 s8v3 2).2.2
def s8v5 : StmS := apS 4 s8v4 5 [100]
def s8d3 : Dv := s8d2.cr []
def s8v6 : StmS := opS s8d3 4
theorem s8_f : (fmS s8d0).1 = 0 := by decide +kernel
theorem s8_h : (fmS s8d0).2.1 = ⟨1, 1, 0, 0, 0⟩ := by decide +kernel
theorem s8_a : apE 4 s8v1 1 [97] = 0 := by decide +kernel
theorem s8_b : apE 4 s8v2 2 [98, 99] = 0 := by decide +kernel
theorem s8_c : (flS 4 s8d1 s8v3 2).1 = 0 := by decide +kernel
theorem s8_o : opE s8d3 4 = 0 := by decide +kernel
theorem s8_l : s8v6.l.drop (posE s8v6.l 0).toNat = [⟨1, 0, [97]⟩, ⟨2, 26, [98, 99]⟩] := by decide +kernel
theorem s8_t : lastV s8v6 = 2 := by decide +kernel
theorem s8_on : s8d0.p.off = false ∧ s8d3.p.off = false := by decide +kernel
theorem s8_64 : Full64 s8d0.la ∧ Full64 s8d1.la ∧ Full64 s8d3.la := by unfold Full64; decide +kernel
theorem s8_n : s8d0.la.length = 6 ∧ s8d1.la.length = 6 ∧ s8d2.la.length = 6 ∧ s8d3.la.length = 6 := by decide +kernel
end Go.Q
namespace Go.Q
theorem s8_k1 : StmOk 4 s8v1 := fmV_ok ⟨by decide, by decide⟩ (by rw [s8_h]; decide +kernel) (by rw [s8_h])
theorem s8_k2 : StmOk 4 s8v2 := apS_ok s8_k1 _ _
theorem s8_k3 : StmOk 4 s8v3 := apS_ok s8_k2 _ _
theorem s8_k4 : StmOk 4 s8v4 := flS_ok s8_k3 _ _
theorem s8_k6 : StmOk 4 s8v6 := opS_ok ⟨by decide, by decide⟩ s8_64.2.2 (LoOk.nil _) (by rw [s8_n.2.2.2]; decide) s8_o
theorem s8_lk1 : LoOk s8d1.lo s8d1.la.length := fmS_lo (LoOk.nil _)
theorem s8_lk2 : LoOk s8d2.lo s8d2.la.length := flS_lo s8_lk1 _
theorem s8_f1 : Few s8d1.p 8 := few_fmS (d := s8d0) Few.new
end Go.Q
namespace Go.Q
structure RunS where
 l : List LEnt
 flushed : Int
 reserved : Int
 room : Int
 start : Int
 tail : Int
 mark : Int
def lastR (r : RunS) : Int := match r.l[r.l.length - 1]? with
 | none => r.mark
 | some e => max r.mark e.gsn
theorem lastR_none {r : RunS} (h : r.l.length = 0) : lastR r = r.mark := by
 unfold lastR
 rw [List.getElem?_eq_none (by omega)]
theorem lastR_some {r : RunS} {e : LEnt} (h : r.l[r.l.length - 1]? = some e) : lastR r = max r.mark e.gsn := by
 unfold lastR
 rw [h]
def runOf (n : Int) (v : StmS) : RunS := ⟨v.l, v.flushed, v.res, 64 * n, v.st, v.tail, v.mrk⟩
def c8z (kk : Nat) : Dv := ⟨Pw.mk false false 0 0, List.replicate (kk + 2) blankS, []⟩
def c8d (kk : Nat) : Dv := (fmS (c8z kk)).2.2
def c8v (kk : Nat) : StmS := fmV (fmS (c8z kk)).2.1
def c8h : Hd := ⟨1, 1, 0, 0, 0⟩
theorem c8_all : ∀ kk : Fin 43, 3 ≤ kk.val → (fmS (c8z kk)).1 = 0 ∧ (fmS (c8z kk)).2.1 = c8h ∧ (c8d kk).lo = [] ∧ (c8d kk).p.off = false ∧ (c8d kk).p.armed = false ∧ (c8d kk).la.length = kk + 2 ∧ (∀ s ∈ (c8d kk).la, s.length = 64) ∧ sec (c8d kk).la 0 = blankS ∧ sec (c8d kk).la 1 = hdL c8h := by decide +kernel
theorem c8_ok {kk : Nat} (h : 3 ≤ kk ∧ kk ≤ 42) : (fmS (c8z kk)).1 = 0 ∧ c8v kk = ⟨1, 1, 0, 0, 0, [], 0, 0, 0, true, 0⟩ ∧ (c8d kk).lo = [] ∧ Pw1 (c8d kk).p ∧ (c8d kk).la.length = kk + 2 ∧ Full64 (c8d kk).la ∧ KpA (c8d kk).la 0 c8h := by
 obtain ⟨h1, h2, h3, h4, h5, h6, h7, h8, h9⟩ := c8_all ⟨kk, by omega⟩ h.1
 refine ⟨h1, by unfold c8v; rw [h2]; rfl, h3, ⟨h4, h5⟩, h6, h7, ?_⟩
 unfold KpA
 rw [h8, show (0 : Int) + 1 = 1 from rfl, h9]
 refine ⟨by decide +kernel, ?_⟩
 rw [if_neg (by decide)]
 refine ⟨rfl, fun g => ?_⟩
 rw [hdP_blank] at g
 cases g
theorem c8_few (kk : Nat) : Few (c8d kk).p (kk + 4) := by
 have := few_fmS (d := c8z kk) Few.new
 rw [show (c8z kk).la.length = kk + 2 by unfold c8z; simp] at this
 exact this.mono (by omega)
theorem c8_lk (kk : Nat) : LoOk (c8d kk).lo (c8d kk).la.length := fmS_lo (LoOk.nil _)
end Go.Q
namespace Go.Q
section
variable {n g : Int} {v : StmS} {s : Bs}
theorem ready_zero (her : v.err = 0) (hct : v.cut = true) : readyE v = 0 := by unfold readyE; rw [her, hct]; rfl
theorem ap_long (hr : readyE v = 0) (h : 200 < (s.length : Int)) : apS n v g s = v := by
 have : apE n v g s ≠ 0 := by
  have hm : mayL v g (s.length : Int) = 1 := by unfold mayL; rw [if_neg (fun q => q hr), if_pos (.inr (.inr h))]
  unfold apE; rw [hm, if_pos (by decide)]; decide
 exact if_neg this
theorem ap_full (h : freeV n v < 25 + (s.length : Int)) : apS n v g s = v := by
 have : apE n v g s ≠ 0 := by
  unfold apE
  split
  · assumption
  · decide
 exact if_neg this
theorem ap_lay (hr : readyE v = 0) (h1 : lastV v < g) (h2 : g ≤ 4611686018427387903) (h3 : ¬ 200 < (s.length : Int)) (h4 : ¬ freeV n v < 25 + (s.length : Int)) : apS n v g s = layS v g s := by
 have hm : mayL v g (s.length : Int) = 0 := by unfold mayL; rw [if_neg (fun q => q hr), if_neg (by omega)]
 exact if_pos (by unfold apE; rw [hm, if_neg (fun q => q rfl), if_neg h4])
end
end Go.Q
namespace Go.Q
abbrev yR (b : Nat) (r : RunS) (d a : Nat) (x : Value) : List Hp := [Hp.one b (.cells #[(.pointer (some ⟨d, 0, none⟩)), (.pointer (some ⟨a, 0, none⟩)), x, (.int .i64 r.flushed), (.int .i64 r.reserved), (.int .i64 r.room), (.int .i64 r.start), (.int .i64 r.tail), (.int .i64 r.mark)] 55 (0, 0))]
end Go.Q
namespace Go.Q
section
variable {n g : Int} {v : StmS} {s : Bs}
theorem last_mrk (v : StmS) : v.mrk ≤ lastV v := by
 unfold lastV
 split
 · exact Int.le_refl _
 · omega
theorem ap_last : lastV (apS n v g s) ≤ max (lastV v) g := by
 unfold apS
 split
 ·
  have e : (layS v g s).l[(layS v g s).l.length - 1]? = some ⟨g, v.tail, s⟩ := by
   show (v.l ++ [_])[(v.l ++ [_]).length - 1]? = _
   rw [List.length_append, List.length_singleton, Nat.add_sub_cancel, List.getElem?_append_right (Nat.le_refl _), Nat.sub_self]; rfl
  rw [last_some e]
  have := last_mrk v
  show max v.mrk g ≤ _
  omega
 · omega
theorem ap_keeps : (apS n v g s).hd = v.hd ∧ (apS n v g s).err = v.err ∧ (apS n v g s).cut = v.cut ∧ (apS n v g s).flushed = v.flushed := by
 unfold apS
 split <;> exact ⟨rfl, rfl, rfl, rfl⟩
end
structure C1 (n : Int) (v : StmS) (i : Nat) : Prop where
 ok : StmOk n v
 hd : v.hd = c8h
 err : v.err = 0
 cut : v.cut = true
 last : lastV v ≤ 2 * (i : Int)
theorem C1.start {kk : Nat} (h : 3 ≤ kk ∧ kk ≤ 42) : C1 (kk : Int) (c8v kk) 0 := by
 have e := (c8_ok h).2.1
 rw [e]
 refine ⟨?_, rfl, rfl, rfl, by decide⟩
 exact fmV_ok (h := c8h) ⟨by omega, by omega⟩ (by decide +kernel) rfl
theorem C1.step {n : Int} {v : StmS} {i : Nat} (h : C1 n v i) (s : Bs) : C1 n (apS n v (lastV v + 2) s) (i + 1) := by
 obtain ⟨a1, a2, a3, _⟩ := ap_keeps (n := n) (g := lastV v + 2) (v := v) (s := s)
 have h1 := ap_last (n := n) (g := lastV v + 2) (v := v) (s := s)
 have h2 := h.last
 exact ⟨apS_ok h.ok _ _, by rw [a1]; exact h.hd, by rw [a2]; exact h.err, by rw [a3]; exact h.cut, by omega⟩
structure C2 (kk : Nat) (d : Dv) : Prop where
 num : 3 ≤ kk ∧ kk ≤ 42
 len : d.la.length = kk + 2
 lo : d.lo = []
 pw : Pw1 d.p
 f64 : Full64 d.la
 hd : ∃ h, KpA d.la 0 h ∧ h.ep = 1 ∧ h.cut = 0 ∧ h.st = 0 ∧ h.seq ≤ 2 ∧ 0 ≤ h.mrk ∧ h.mrk ≤ 100
theorem C2.of {kk : Nat} (hk : 3 ≤ kk ∧ kk ≤ 42) {v : StmS} {i : Nat} (h : C1 (kk : Int) v i) (hi : i ≤ 20) (a : Int) {m : Int} (hm : m = lastV v + 1) (keep : List Int) : C2 kk ((flS (kk : Int) ((c8d kk).ar a) v m).2.1.cr keep) := by
 obtain ⟨c1, c2, c3, c4, c5, c6, c7⟩ := c8_ok hk
 have hl : ((flS (kk : Int) ((c8d kk).ar a) v m).2.1).la.length = kk + 2 := by rw [flS_len]; exact c5
 have hlk0 : LoOk ((c8d kk).ar a).lo ((c8d kk).ar a).la.length := c8_lk kk
 have hlk := flS_lo (n := (kk : Int)) (v := v) hlk0 m
 have hf := full_flS (n := (kk : Int)) (v := v) hlk0 c6 m
 refine ⟨hk, by show (settleS _ _ keep).length = _; rw [settle_len]; exact hl, rfl, Pw1.back _, full_cr hlk hf keep, ?_⟩
 have hk0 : KpA ((c8d kk).ar a).la 0 v.hd := by rw [h.hd]; exact c7
 have hll := last_le h.ok
 have h2 := h.last
 rcases flS_crash (n := (kk : Int)) (d := (c8d kk).ar a) (v := v) (by omega) c3 hk0 m keep with q | q
 ·
  rw [h.hd] at q
  exact ⟨c8h, q, rfl, rfl, rfl, by decide, by decide, by decide⟩
 ·
  rw [h.hd] at q
  exact ⟨_, q, rfl, rfl, rfl, (show (1 : Int) + 1 ≤ 2 by decide), by show 0 ≤ m; omega, by show m ≤ 100; omega⟩
section
variable {kk : Nat} {d : Dv}
theorem C2.op (h : C2 kk d) : opE d (kk : Int) = 0 ∧ StmOk (kk : Int) (opS d (kk : Int)) ∧ 0 ≤ (opS d (kk : Int)).mrk ∧ (opS d (kk : Int)).mrk ≤ 100 := by
 obtain ⟨x, k1, k2, k3, k4, k5, k6, k7⟩ := h.hd
 have hn := h.num
 have hl := h.len
 obtain ⟨o1, o2, o3⟩ := op_one (n := (kk : Int)) (d := d) (by omega) (by omega) h.pw.1 k1 k2 k3 k4
 refine ⟨o1, opS_ok ⟨by omega, by omega⟩ h.f64 (by rw [h.lo]; exact LoOk.nil _) (by omega) o1, ?_, ?_⟩
 · show 0 ≤ (ldH d.p d.la 0).mrk; rw [o2]; exact k6
 · show (ldH d.p d.la 0).mrk ≤ 100; rw [o2]; exact k7
theorem C2.pst (h : C2 kk d) (hP : PstD d.la) : Pst (ringB d (kk : Int) 0) 1 (ringB d (kk : Int) 0).length := by
 obtain ⟨x, k1, k2, k3, k4, k5, k6, k7⟩ := h.hd
 have hn := h.num
 have hl := h.len
 obtain ⟨e1, e2⟩ := k1.ld (p := d.p) ⟨by decide, by omega⟩ h.pw.1
 obtain ⟨q1, q2⟩ := ldD_ld (p := d.p) (la := d.la) h.pw.1 (by omega)
 have := hP (by rw [← q2]; exact e2)
 rw [← q1, e1, k2, ringT_ring h.lo h.f64 (n := (kk : Int)) (by omega) (by omega)] at this
 exact this
structure C3 (kk : Nat) (d : Dv) (last : Int) (R : Int × Dv × StmS) : Prop where
 ok : R.1 = 0
 lo : R.2.1.lo = []
 pw : Pw1 R.2.1.p
 f64 : Full64 R.2.1.la
 len : R.2.1.la.length = kk + 2
 cn : Cn (ringB d (kk : Int) 0) R.2.1.la [] 2 kk
 kp : KpA R.2.1.la 0 R.2.2.hd
 st : StmOk (kk : Int) R.2.2
 vs : R.2.2.ep = 2 ∧ R.2.2.st = 0 ∧ R.2.2.hcut = R.2.2.tail ∧ R.2.2.err = 0 ∧ R.2.2.cut = true ∧ R.2.2.flushed = R.2.2.l.length ∧ R.2.2.seq < 4611686018427387903 ∧ R.2.2.mrk = last
 le : ∀ e ∈ R.2.2.l, e.gsn ≤ last
 kx : ∃ k, R.2.2.l = ((opC d (kk : Int)).1.take k).map entF
theorem C2.ct (h : C2 kk d) {last : Int} (hl : 0 ≤ last ∧ last ≤ 1000) : C3 kk d last (ctS d (opS d (kk : Int)) last) := by
 obtain ⟨x, k1, k2, k3, k4, k5, k6, k7⟩ := h.hd
 have hn := h.num
 have hln := h.len
 obtain ⟨c1, c2, c3, c4, c5, c6, c7, c8, c9, c10, c11⟩ := ct_calm (n := (kk : Int)) (d := d) (last := last) ⟨by omega, by omega⟩ (by omega) h.pw h.lo h.f64 k1 k2 k3 k4 (by omega) ⟨hl.1, by omega⟩ rfl
 exact ⟨c1, c2, c3, c4, by omega, c6, c7, c8, c9, c10, c11⟩
theorem C3.last {last : Int} {R : Int × Dv × StmS} (h : C3 kk d last R) : lastV R.2.2 = last := by
 have hm := h.vs.2.2.2.2.2.2.2
 unfold lastV
 split
 · exact hm
 ·
  rename_i e he
  have := h.le e (List.mem_of_getElem? he)
  omega
theorem C3.none {last : Int} {R : Int × Dv × StmS} (h : C3 kk d last R) : (R.2.2.l.drop (posE R.2.2.l (last + 1)).toNat).length = 0 := by
 rw [posE_all (fun e he => by have := h.le e he; omega)]; simp
theorem ents_neg {n : Int} {v : StmS} (h : StmOk n v) : v.l.drop (posE v.l (-1)).toNat = v.l := by
 rw [posE_neg fun e he => (h.gsn e he).1]; rfl
structure C4 (kk : Nat) (v w : StmS) (last : Int) (i : Nat) : Prop where
 ok : StmOk (kk : Int) w
 grw : Grw v w
 last : lastV w ≤ last + 2 * (i : Int)
theorem C4.start {last : Int} {R : Int × Dv × StmS} (h : C3 kk d last R) : C4 kk R.2.2 R.2.2 last 0 := ⟨h.st, Grw.refl _, by rw [h.last]; omega⟩
theorem C4.step {v w : StmS} {last g : Int} {i : Nat} (h : C4 kk v w last i) (hg : g ≤ lastV w + 2) (s : Bs) : C4 kk v (apS (kk : Int) w g s) last (i + 1) := by
 have h1 := ap_last (n := (kk : Int)) (g := g) (v := w) (s := s)
 have h2 := h.last
 exact ⟨apS_ok h.ok _ _, h.grw.ap g s, by omega⟩
theorem C4.skip {v w : StmS} {last : Int} {i : Nat} (h : C4 kk v w last i) : C4 kk v w last (i + 1) := ⟨h.ok, h.grw, by have := h.last; omega⟩
structure C5 (kk : Nat) (d : Dv) (l : List LEnt) : Prop where
 len : d.la.length = kk + 2
 lo : d.lo = []
 off : d.p.off = false
 f64 : Full64 d.la
 op : opE d (kk : Int) = 0
 l : (opS d (kk : Int)).l = l
theorem C5.ok {l : List LEnt} (h : C5 kk d l) (hk : 3 ≤ kk ∧ kk ≤ 42) : StmOk (kk : Int) (opS d (kk : Int)) :=
 opS_ok ⟨by omega, by omega⟩ h.f64 (by rw [h.lo]; exact LoOk.nil _) (by have := h.len; omega) h.op
theorem C3.flush (h2 : C2 kk d) (hP : PstD d.la) {last : Int} {R : Int × Dv × StmS} (h : C3 kk d last R) {w : StmS} {i : Nat} (h4 : C4 kk R.2.2 w last i) (keep : List Int) :
  (flS (kk : Int) R.2.1 w (lastV w)).1 = 0 ∧ C5 kk ((flS (kk : Int) R.2.1 w (lastV w)).2.1.cr keep) w.l := by
 obtain ⟨x, k1, k2, k3, k4, k5, k6, k7⟩ := h2.hd
 have hn := h2.num
 have hln := h2.len
 have hln4 := h.len
 obtain ⟨v1, v2, v3, v4, v5, v6, v7, v8⟩ := h.vs
 obtain ⟨new, hnew⟩ := h4.grw.l
 have ghd := h4.grw.hd
 have gst : w.st = 0 := (congrArg Hd.st ghd).trans v2
 have gep : w.ep = 2 := (congrArg Hd.ep ghd).trans v1
 have gsq : w.seq < 4611686018427387903 := by have e : w.seq = R.2.2.seq := congrArg Hd.seq ghd; omega
 have gct : w.hcut = R.2.2.tail := (congrArg Hd.cut ghd).trans v3
 have gfl : w.flushed = R.2.2.l.length := h4.grw.fl.trans v6
 have hl1 : w.l.take w.flushed.toNat = R.2.2.l := by rw [gfl, hnew, show ((R.2.2.l.length : Nat) : Int).toNat = R.2.2.l.length from rfl, List.take_left]
 have hl2 : w.l.drop w.flushed.toNat = new := by rw [gfl, hnew, show ((R.2.2.l.length : Nat) : Int).toNat = R.2.2.l.length from rfl, List.drop_left]
 have l1 := h.st.lay
 rw [v2] at l1
 have l2 := h4.ok.lay
 rw [gst, hnew] at l2
 obtain ⟨f1, f2, f3, f4, y, f5, f6, f7, f8⟩ := flS_calm (n := (kk : Int)) (d := R.2.1) (v := w) (fa := R.2.2.tail) h.pw h.lo h.f64 (by omega) h4.ok gst h.cn (by rw [hl1]; exact l1) (by rw [hl2]; exact l2.split l1) (by rw [ghd]; exact h.kp) (h4.grw.err.trans v4) (h4.grw.cut.trans v5) gsq
 have hlen : (flS (kk : Int) R.2.1 w (lastV w)).2.1.la.length = kk + 2 := by rw [flS_len]; exact h.len
 rw [cr_none f2]
 obtain ⟨k, hkx⟩ := h.kx
 have := cuts_again (n := (kk : Int)) (d := d) (v := R.2.2) (w := w) (d5 := ⟨backS (flS (kk : Int) R.2.1 w (lastV w)).2.1.p, (flS (kk : Int) R.2.1 w (lastV w)).2.1.la, []⟩) (k := k) ⟨by omega, by omega⟩ (by omega) h2.pw.1 h2.lo h2.f64 k1 k2 k3 k4 (h2.pst hP) h.st v2 v1 hkx v6 h4.grw h4.ok (by show (((flS (kk : Int) R.2.1 w (lastV w)).2.1.la.length : Nat) : Int) = _; omega) rfl rfl f3 f5 (f6.trans gep) (f7.trans gct) (f8.trans gst) f4 (by rw [hl2, show w.l.drop R.2.2.flushed.toNat = new by rw [← h4.grw.fl]; exact hl2, gep])
 exact ⟨f1, hlen, rfl, rfl, f3, this.1, this.2⟩
theorem C3.keep (h2 : C2 kk d) (hP : PstD d.la) {last : Int} {R : Int × Dv × StmS} (h : C3 kk d last R) (keep : List Int) : C5 kk (R.2.1.cr keep) R.2.2.l := by
 obtain ⟨x, k1, k2, k3, k4, k5, k6, k7⟩ := h2.hd
 have hn := h2.num
 have hln := h2.len
 have hln4 := h.len
 obtain ⟨v1, v2, v3, v4, v5, v6, v7, v8⟩ := h.vs
 rw [cr_none h.lo]
 obtain ⟨k, hkx⟩ := h.kx
 have hd0 : R.2.2.l.drop R.2.2.flushed.toNat = [] := by rw [v6]; exact List.drop_of_length_le (Nat.le_refl _)
 have := cuts_again (n := (kk : Int)) (d := d) (v := R.2.2) (w := R.2.2) (d5 := ⟨backS R.2.1.p, R.2.1.la, []⟩) (k := k) ⟨by omega, by omega⟩ (by omega) h2.pw.1 h2.lo h2.f64 k1 k2 k3 k4 (h2.pst hP) h.st v2 v1 hkx v6 (Grw.refl _) h.st (by show ((R.2.1.la.length : Nat) : Int) = _; omega) rfl rfl h.f64 h.kp v1 v3 v2 h.cn (by rw [hd0]; simp [layB])
 exact ⟨h.len, rfl, rfl, h.f64, this.1, this.2⟩
end
end Go.Q
namespace Go.Q
theorem slice1 {α : Type} {l : List α} {i a b : Nat} {x : α} (h : l[i]? = some x) (ha : a = i + 1) (hb : b = i) : (l.take a).drop b = [x] := by
 rw [ha, hb, zS h, List.drop_append_of_le_length (by rw [List.length_take]; have := (List.getElem?_eq_some_iff.1 h).1; omega), List.drop_of_length_le (by rw [List.length_take]; omega)]; rfl
theorem got_now {g m : List LEnt} (h : ∃ new, m = g ++ new) {i : Nat} {x y : LEnt} (hx : g[i]? = some x) (hy : m[i]? = some y) : x = y := by
 obtain ⟨new, h⟩ := h
 rw [h, List.getElem?_append_left (List.getElem?_eq_some_iff.1 hx).1, hx] at hy
 exact Option.some.inj hy
theorem got_le {g m : List LEnt} (h : ∃ new, m = g ++ new) : g.length ≤ m.length := by
 obtain ⟨new, h⟩ := h
 rw [h, List.length_append]; omega
end Go.Q
namespace Go.Q
theorem sl_eq {L : List Hp} {v : Value} {l m : List Bs} (h : Sl L 1 v l.length (l.map sV)) (e : l = m) : Sl L 1 v m.length (m.map sV) := e ▸ h
theorem ar_lk {d : Dv} (h : LoOk d.lo d.la.length) (n : Int) : LoOk (d.ar n).lo (d.ar n).la.length := h
end Go.Q
namespace Go.Q
open Go.RowKit
section
variable {P : Program} {ρ : Operand → Value} {E w : World} {ss : List (List Hp)} {K : Value → World → Prop} {dst : Option Tmp} {T : TypeId} {pos : String} {after : Array Edge} {g : Option (Nat × Bool)}
theorem strCells_S (l : List UInt8) : Lib.strCells ⟨l.toArray⟩ = l.map bV := rfl
theorem o_appstr {x y : Operand} {t u e : TypeId} {v : Value} {n : Nat} {cs : List Value} {hs : List Hp} {l : List UInt8} (ht : P.underlying t = some (.slice e)) (hu : P.underlying u = some .string) (hi : TI P e (.int .u8 0) 1 1)
  (hx : ρ x = v) (ho : Own e 1 v n cs hs) (hy : ρ y = S l) (H : Has E w (hs :: ss)) (hb : n + l.length ≤ 140737488355328)
  (hK : ∀ v' hs' w', Own e 1 v' (n + l.length) (cs ++ l.map bV) hs' → (v = .slice none 0 0 → l = [] → v' = .slice none 0 0) → Has E w' (hs' :: ss) → K v' w') :
  OK P ⟨dst, .call ⟨.builtin .append, #[x, y], #[t, u]⟩, T, pos, after, g⟩ ρ w K := by
 obtain ⟨i, hi, hiz, hisz, hiby⟩ := hi
 have hsz : (⟨l.toArray⟩ : ByteArray).size = l.length := by simp [ByteArray.size]
 have hrow := ho.row H
 obtain ⟨v', w', hr, ho', hg, hnil⟩ := Lib.run_append_own_string w 0 t u T e i ht hu hi hiz hisz hiby v n cs hrow ⟨l.toArray⟩ (by rw [hsz]; unfold maxLen; omega) (by rw [hsz]; omega) (Nat.zero_le _)
 have hloc : v'.ownBlock = v.ownBlock ∨ v'.ownBlock = some w.heap.size := by
  obtain ⟨hlc, ⟨rfl, rfl, rfl⟩ | ⟨b, cap, cur, rfl, rfl, hnc, hcm, hcs, htake⟩⟩ := ho
  ·
   by_cases hm : l.length = 0
   · exact .inl (by rw [hnil.2 ⟨rfl, by rw [hsz]; exact hm⟩])
   ·
    have hr2 := run_append_nil_string (P := P) w t u T e i (.int .u8 0) ht hu hi hiz ⟨l.toArray⟩ (by rw [hsz]; omega) (by rw [hsz]; omega) (by rw [hsz, hiby]; omega)
    rw [hr2] at hr
    injection hr with e1 e2
    exact .inr (by rw [← e1]; rfl)
  ·
   have hg0 : w.heap[b]? = some (.cells cur e (0, 0)) := H.at (by simp) (Hp.one_at _ _)
   by_cases hroom : n + (⟨l.toArray⟩ : ByteArray).size ≤ cap
   ·
    have hr2 := Lib.run_append_room_string (P := P) w t u T e i ht hu hi hisz b n cap cur hg0 ⟨l.toArray⟩ hroom (by omega)
    rw [hr2] at hr
    injection hr with e1 e2
    exact .inl (by rw [← e1]; rfl)
   ·
    have holds : ∀ j x, cs[j]? = some x → w.cell? ((⟨b, 0, none⟩ : Addr).add j) = some x := hrow.cells (g := b) rfl
    have hr2 := Lib.run_append_grow_string (P := P) w t u T e i (.int .u8 0) ht hu hi hiz ⟨b, 0, none⟩ n cap cs (by rw [hisz]; simpa using hlc) holds ⟨l.toArray⟩ (by omega) (by rw [hsz]; omega) (by rw [hiby]; exact growslice_fits (by omega) (by rw [hsz]; omega))
    rw [hr2] at hr
    injection hr with e1 e2
    exact .inr (by rw [← e1]; rfl)
 rw [hsz, strCells_S] at ho'
 obtain ⟨hs', hown, hH⟩ := ho.turn H ho' hg hloc
 refine zV (v := v') (w' := w') ?_ (hK v' hs' w' hown (fun h1 h2 => hnil.2 ⟨h1, by rw [h2]; rfl⟩) hH)
 have hyy : ρ y = .string ⟨l.toArray⟩ := hy
 simp only [hx, hyy, builtin, List.map_toArray, List.map_cons, List.map_nil, Sem.run_bind, hr, Result.andThen_ok, Sem.run_pure]
theorem o_uSDnil {x : Operand} {t : TypeId} {n c : Nat} (hx : ρ x = .slice none n c) (h : K (.pointer none) w) : OK P ⟨dst, .call ⟨.builtin .unsafeSliceData, #[x], #[t]⟩, T, pos, after, g⟩ ρ w K := by
 refine zV (v := .pointer none) (w' := w) ?_ h
 simp [hx, builtin, Lib.run_unsafeSliceData_nil]
theorem o_uSD {x : Operand} {t : TypeId} {a : Addr} {n c : Nat} (hx : ρ x = .slice (some a) n c) (hc : c ≠ 0) (h : K (.pointer (some a)) w) : OK P ⟨dst, .call ⟨.builtin .unsafeSliceData, #[x], #[t]⟩, T, pos, after, g⟩ ρ w K := by
 refine zV (v := .pointer (some a)) (w' := w) ?_ h
 simp [hx, builtin, Lib.run_unsafeSliceData_row w _ _ a n c hc]
theorem Has.freeze {E w : World} {hs : List Hp} {ss : List (List Hp)} {b : Nat} {o : Obj} (H : Has E w (hs :: ss)) (hh : hs = [Hp.one b o]) (n : Nat) : Has E (w.freeze ⟨b, 0, none⟩ n) ss := by
 subst hh
 have h0 : Has0 E w ([Hp.one b o] ++ ss.flatten) := by simpa [Has] using H
 have h1 : Has0 E (w.freeze ⟨b, 0, none⟩ n) ([] ++ ss.flatten) := by
  unfold World.freeze
  split
  · exact h0.weak (by simp)
  ·
   refine Has0.write (an := [Hp.one b o]) (an' := []) h0 rfl rfl rfl (by simp) (fun k _ => .inl (by simp)) (by simp) fun k hk hn => ?_
   have hne : b ≠ k := fun e => by
    have := hn _ (List.mem_singleton.2 rfl)
    rw [← e, Hp.one_at] at this; cases this
   simp only [Array.getElem?_modify]
   rw [if_neg (fun e => hne e)]
 simpa [Has] using h1
theorem o_uStrNil {x y : Operand} {t u : TypeId} {p : Option Addr} (hx : ρ x = .pointer p) (hy : ρ y = .int .i64 0) (h : K (S []) w) : OK P ⟨dst, .call ⟨.builtin .unsafeString, #[x, y], #[t, u]⟩, T, pos, after, g⟩ ρ w K := by
 refine zV (v := S []) (w' := w) ?_ h
 simp only [hx, hy, builtin, List.map_toArray, List.map_cons, List.map_nil, Sem.run_bind, Lib.run_unsafeString_none, Result.andThen_ok, Sem.run_pure]; rfl
theorem o_uStr {x y : Operand} {t u e : TypeId} {b cap : Nat} {l : List UInt8} {hs : List Hp} (ht : P.underlying t = some (.pointer e)) (hc : P.cellsOf e = 1) (hx : ρ x = .pointer (some ⟨b, 0, none⟩)) (hy : ρ y = .int .i64 (l.length : Int))
  (ho : Own e 1 (.slice (some ⟨b, 0, none⟩) l.length cap) l.length (l.map bV) hs) (h0 : l ≠ []) (H : Has E w (hs :: ss)) (hK : ∀ w', Has E w' ss → K (S l) w') : OK P ⟨dst, .call ⟨.builtin .unsafeString, #[x, y], #[t, u]⟩, T, pos, after, g⟩ ρ w K := by
 have hrow := ho.row H
 have hcells := hrow.cells (g := b) rfl
 obtain ⟨hlc, ⟨h, _⟩ | ⟨b', cap', cur, h, hhs, hnc, hcm, hcs, _⟩⟩ := ho
 · cases h
 ·
  cases h
  have hg : w.heap[b]? = some (.cells cur e (0, 0)) := H.at (h := Hp.one b (.cells cur e (0, 0))) (by rw [hhs]; simp) (Hp.one_at _ _)
  have hr := Lib.run_unsafeString_row (P := P) w t u T e ht hc b cur.size (by simp [World.shape?, hg]) l h0 (by omega) (by unfold maxLen at hcm; omega) (fun j x hj => hcells j _ (by rw [List.getElem?_map, hj]; rfl))
  refine zV (v := S l) (w' := w.freeze ⟨b, 0, none⟩ l.length) ?_ (hK _ (H.freeze hhs _))
  simp only [hx, hy, builtin, List.map_toArray, List.map_cons, List.map_nil, Sem.run_bind, hr, Result.andThen_ok, Sem.run_pure]; rfl
theorem shape_of {E w : World} {ss : List (List Hp)} {b : Nat} {cs : Array Value} {T' : TypeId} {f : Nat × Nat} (H : Has E w ss) (hL : [Hp.one b (.cells cs T' f)] ⊆ ss.flatten) : w.shape? b = some (T', cs.size) := by
 have hg : w.heap[b]? = some (.cells cs T' f) := H.at (hL (List.mem_singleton.2 rfl)) (Hp.one_at _ _)
 simp [World.shape?, hg]
theorem o_toUnsafe {x : Operand} {t u te T' : TypeId} {b : Nat} {cs : Array Value} {f : Nat × Nat} {z : Value} {sz by_ : Nat} (ht : P.underlying t = some (.pointer te)) (hu : P.underlying u = some .unsafePointer) (hj : TI P te z sz by_) (hjs : sz ≠ 0) (hx : ρ x = .pointer (some ⟨b, 0, none⟩))
  (H : Has E w ss) (hL : [Hp.one b (.cells cs T' f)] ⊆ ss.flatten) (hc : 0 < cs.size) (h : K (.pointer (some ⟨b, 0, none⟩)) w) : OK P ⟨dst, .convert t u x, T, pos, after, g⟩ ρ w K := by
 obtain ⟨j, hj, _, hsz, _⟩ := hj
 exact OK.val (run_v (by rw [hx]; exact Lib.run_to_unsafe w ⟨b, 0, none⟩ ht hu hj (by rw [hsz]; exact hjs) (shape_of H hL) hc)) h
theorem o_fromUnsafe {x : Operand} {t u te T' : TypeId} {b : Nat} {cs : Array Value} {f : Nat × Nat} {z : Value} {sz by_ : Nat} (ht : P.underlying t = some .unsafePointer) (hu : P.underlying u = some (.pointer te)) (hj : TI P te z sz by_) (hx : ρ x = .pointer (some ⟨b, 0, none⟩))
  (H : Has E w ss) (hL : [Hp.one b (.cells cs T' f)] ⊆ ss.flatten) (hl : liesAt P P.depth T' (cs.size / P.cellsOf T') 0 te 1 = true) (h : K (.pointer (some ⟨b, 0, none⟩)) w) : OK P ⟨dst, .convert t u x, T, pos, after, g⟩ ρ w K := by
 obtain ⟨j, hj, _⟩ := hj
 exact OK.val (run_v (by rw [hx]; exact Lib.run_from_unsafe w ⟨b, 0, none⟩ ht hu hj (shape_of H hL) hl)) h
theorem o_extern {c x : Operand} {f : FuncId} {ts : Array TypeId} {v v' : Value} (hv : ρ c = .func (.func f) #[] #[]) (hx : ρ x = v) (hr : (callFunc f #[v]).run P w = .ok (.value v') w) (h : K v' w) :
  OK P ⟨dst, .call ⟨.value c, #[x], ts⟩, T, pos, after, g⟩ ρ w K := by
 refine OK.val ?_ h
 simp [execOp, resolve, hv, Deferred.ofValue, invoke, hx, hr]
theorem o_pneqSame {x y : Operand} {t te t2 : TypeId} {z : Value} {sz by_ : Nat} {a : Addr} (ht : P.underlying t = some (.pointer te)) (hj : TI P te z sz by_) (hx : ρ x = .pointer (some a)) (hy : ρ y = .pointer (some a)) (h : K (.bool false) w) :
  OK P ⟨dst, .binOp .neq t x y t2, T, pos, after, g⟩ ρ w K := by
 obtain ⟨j, hj, _⟩ := hj
 exact OK.val (run_v (by rw [hx, hy]; exact Lib.run_neq_ptr_same w a ht hj)) h
end
end Go.Q
namespace Go.Q
open Go.Proofs
theorem ti3 : TI Tryz.prog 3 (.int .i64 0) 1 8 := TI.mk (by kernel_rfl)
theorem ti4 : TI Tryz.prog 4 (.bool false) 1 1 := TI.mk (by kernel_rfl)
theorem ti5 : TI Tryz.prog 5 (.int .u8 0) 1 1 := TI.mk (by kernel_rfl)
theorem ti9 : TI Tryz.prog 9 (.string ⟨#[]⟩) 1 16 := TI.mk (by kernel_rfl)
theorem zY : TI Tryz.prog 23 (.agg #[(.int .i64 0), (.int .i64 0), (.int .i64 0), (.int .i64 0), (.int .i64 0)]) 5 40 := TI.mk (by kernel_rfl)
theorem ti25 : TI Tryz.prog 25 (.pointer none) 1 8 := TI.mk (by kernel_rfl)
theorem ti28 : TI Tryz.prog 28 (.int .i64 0) 1 8 := TI.mk (by kernel_rfl)
theorem ti30 : TI Tryz.prog 30 (.slice none 0 0) 1 24 := TI.mk (by kernel_rfl)
theorem ti31 : TI Tryz.prog 31 (.slice none 0 0) 1 24 := TI.mk (by kernel_rfl)
theorem ti37 : TI Tryz.prog 37 (.slice none 0 0) 1 24 := TI.mk (by kernel_rfl)
theorem ti42 : TI Tryz.prog 42 (.agg #[(.int .i64 0), (.int .i64 0), (.string ⟨#[]⟩)]) 3 32 := TI.mk (by kernel_rfl)
theorem ti44 : TI Tryz.prog 44 (.agg #[(.int .i64 0), (.int .i64 0), (.int .i64 0), (.string ⟨#[]⟩)]) 4 40 := TI.mk (by kernel_rfl)
theorem ti47 : TI Tryz.prog 47 (.slice none 0 0) 1 24 := TI.mk (by kernel_rfl)
theorem ti58 : TI Tryz.prog 58 (.slice none 0 0) 1 24 := TI.mk (by kernel_rfl)
theorem ti59 : TI Tryz.prog 59 (.slice none 0 0) 1 24 := TI.mk (by kernel_rfl)
theorem ti61 : TI Tryz.prog 61 (.agg #[(.slice none 0 0), (.slice none 0 0)]) 2 48 := TI.mk (by kernel_rfl)
theorem ti170 : TI Tryz.prog 170 (.agg #[(.int .i64 0), (.int .i64 0)]) 2 16 := TI.mk (by kernel_rfl)
theorem ti173 : TI Tryz.prog 173 (.agg #[(.int .i64 0), (.int .i64 0), (.int .i64 0), (.int .i64 0), (.int .i64 0)]) 5 40 := TI.mk (by kernel_rfl)
theorem ti176 : TI Tryz.prog 176 (.agg #[(.int .i64 0), (.int .i64 0), (.int .i64 0), (.string ⟨#[]⟩)]) 4 40 := TI.mk (by kernel_rfl)
theorem ti247 : TI Tryz.prog 247 (.pointer none) 1 8 := TI.mk (by kernel_rfl)
theorem ti249 : TI Tryz.prog 249 (.agg #[(.pointer none), (.slice none 0 0)]) 2 32 := TI.mk (by kernel_rfl)
theorem ti269 : TI Tryz.prog 269 (.agg #[(.int .i64 0), (.int .i64 0), (.int .i64 0)]) 3 24 := TI.mk (by kernel_rfl)
theorem zT : TI Tryz.prog 275 (.agg #[(.int .i64 0), (.int .i64 0), (.int .i64 0), (.int .i64 0), (.int .i64 0)]) 5 40 := TI.mk (by kernel_rfl)
theorem ti349 : TI Tryz.prog 349 (.int .u32 0) 1 4 := TI.mk (by kernel_rfl)
theorem ti367 : TI Tryz.prog 367 (.pointer none) 1 8 := TI.mk (by kernel_rfl)
theorem ca11 : Callable Tryz.prog 11 := ⟨_, Tryz.func11, by kernel_rfl, by kernel_rfl⟩
theorem ca12 : Callable Tryz.prog 12 := ⟨_, Tryz.func12, by kernel_rfl, by kernel_rfl⟩
theorem ca13 : Callable Tryz.prog 13 := ⟨_, Tryz.func13, by kernel_rfl, by kernel_rfl⟩
theorem ca15 : Callable Tryz.prog 15 := ⟨_, Tryz.func15, by kernel_rfl, by kernel_rfl⟩
theorem ca16 : Callable Tryz.prog 16 := ⟨_, Tryz.func16, by kernel_rfl, by kernel_rfl⟩
theorem ca17 : Callable Tryz.prog 17 := ⟨_, Tryz.func17, by kernel_rfl, by kernel_rfl⟩
theorem ca19 : Callable Tryz.prog 19 := ⟨_, Tryz.func19, by kernel_rfl, by kernel_rfl⟩
theorem ca20 : Callable Tryz.prog 20 := ⟨_, Tryz.func20, by kernel_rfl, by kernel_rfl⟩
theorem ca21 : Callable Tryz.prog 21 := ⟨_, Tryz.func21, by kernel_rfl, by kernel_rfl⟩
theorem ca22 : Callable Tryz.prog 22 := ⟨_, Tryz.func22, by kernel_rfl, by kernel_rfl⟩
theorem ca23 : Callable Tryz.prog 23 := ⟨_, Tryz.func23, by kernel_rfl, by kernel_rfl⟩
theorem ca24 : Callable Tryz.prog 24 := ⟨_, Tryz.func24, by kernel_rfl, by kernel_rfl⟩
theorem ca25 : Callable Tryz.prog 25 := ⟨_, Tryz.func25, by kernel_rfl, by kernel_rfl⟩
theorem ca26 : Callable Tryz.prog 26 := ⟨_, Tryz.func26, by kernel_rfl, by kernel_rfl⟩
theorem ca27 : Callable Tryz.prog 27 := ⟨_, Tryz.func27, by kernel_rfl, by kernel_rfl⟩
theorem ca28 : Callable Tryz.prog 28 := ⟨_, Tryz.func28, by kernel_rfl, by kernel_rfl⟩
theorem ca29 : Callable Tryz.prog 29 := ⟨_, Tryz.func29, by kernel_rfl, by kernel_rfl⟩
theorem ca30 : Callable Tryz.prog 30 := ⟨_, Tryz.func30, by kernel_rfl, by kernel_rfl⟩
theorem ca31 : Callable Tryz.prog 31 := ⟨_, Tryz.func31, by kernel_rfl, by kernel_rfl⟩
theorem ca32 : Callable Tryz.prog 32 := ⟨_, Tryz.func32, by kernel_rfl, by kernel_rfl⟩
theorem ca37 : Callable Tryz.prog 37 := ⟨_, Tryz.func37, by kernel_rfl, by kernel_rfl⟩
theorem ca38 : Callable Tryz.prog 38 := ⟨_, Tryz.func38, by kernel_rfl, by kernel_rfl⟩
theorem ca39 : Callable Tryz.prog 39 := ⟨_, Tryz.func39, by kernel_rfl, by kernel_rfl⟩
theorem ca85 : Callable Tryz.prog 85 := ⟨_, Tryz.func85, by kernel_rfl, by kernel_rfl⟩
theorem ca86 : Callable Tryz.prog 86 := ⟨_, Tryz.func86, by kernel_rfl, by kernel_rfl⟩
theorem ca87 : Callable Tryz.prog 87 := ⟨_, Tryz.func87, by kernel_rfl, by kernel_rfl⟩
theorem ca88 : Callable Tryz.prog 88 := ⟨_, Tryz.func88, by kernel_rfl, by kernel_rfl⟩
theorem ca89 : Callable Tryz.prog 89 := ⟨_, Tryz.func89, by kernel_rfl, by kernel_rfl⟩
theorem ca90 : Callable Tryz.prog 90 := ⟨_, Tryz.func90, by kernel_rfl, by kernel_rfl⟩
theorem ca91 : Callable Tryz.prog 91 := ⟨_, Tryz.func91, by kernel_rfl, by kernel_rfl⟩
theorem ca92 : Callable Tryz.prog 92 := ⟨_, Tryz.func92, by kernel_rfl, by kernel_rfl⟩
theorem ca93 : Callable Tryz.prog 93 := ⟨_, Tryz.func93, by kernel_rfl, by kernel_rfl⟩
theorem ca94 : Callable Tryz.prog 94 := ⟨_, Tryz.func94, by kernel_rfl, by kernel_rfl⟩
theorem ca95 : Callable Tryz.prog 95 := ⟨_, Tryz.func95, by kernel_rfl, by kernel_rfl⟩
theorem ca96 : Callable Tryz.prog 96 := ⟨_, Tryz.func96, by kernel_rfl, by kernel_rfl⟩
theorem ca97 : Callable Tryz.prog 97 := ⟨_, Tryz.func97, by kernel_rfl, by kernel_rfl⟩
theorem ca98 : Callable Tryz.prog 98 := ⟨_, Tryz.func98, by kernel_rfl, by kernel_rfl⟩
theorem ca99 : Callable Tryz.prog 99 := ⟨_, Tryz.func99, by kernel_rfl, by kernel_rfl⟩
theorem ca100 : Callable Tryz.prog 100 := ⟨_, Tryz.func100, by kernel_rfl, by kernel_rfl⟩
theorem ca101 : Callable Tryz.prog 101 := ⟨_, Tryz.func101, by kernel_rfl, by kernel_rfl⟩
theorem ca102 : Callable Tryz.prog 102 := ⟨_, Tryz.func102, by kernel_rfl, by kernel_rfl⟩
theorem ca103 : Callable Tryz.prog 103 := ⟨_, Tryz.func103, by kernel_rfl, by kernel_rfl⟩
theorem ca105 : Callable Tryz.prog 105 := ⟨_, Tryz.func105, by kernel_rfl, by kernel_rfl⟩
theorem ca106 : Callable Tryz.prog 106 := ⟨_, Tryz.func106, by kernel_rfl, by kernel_rfl⟩
theorem ca107 : Callable Tryz.prog 107 := ⟨_, Tryz.func107, by kernel_rfl, by kernel_rfl⟩
theorem ca108 : Callable Tryz.prog 108 := ⟨_, Tryz.func108, by kernel_rfl, by kernel_rfl⟩
theorem ca109 : Callable Tryz.prog 109 := ⟨_, Tryz.func109, by kernel_rfl, by kernel_rfl⟩
theorem ca110 : Callable Tryz.prog 110 := ⟨_, Tryz.func110, by kernel_rfl, by kernel_rfl⟩
theorem ca111 : Callable Tryz.prog 111 := ⟨_, Tryz.func111, by kernel_rfl, by kernel_rfl⟩
theorem ca112 : Callable Tryz.prog 112 := ⟨_, Tryz.func112, by kernel_rfl, by kernel_rfl⟩
theorem ca113 : Callable Tryz.prog 113 := ⟨_, Tryz.func113, by kernel_rfl, by kernel_rfl⟩
theorem ca114 : Callable Tryz.prog 114 := ⟨_, Tryz.func114, by kernel_rfl, by kernel_rfl⟩
theorem ca115 : Callable Tryz.prog 115 := ⟨_, Tryz.func115, by kernel_rfl, by kernel_rfl⟩
theorem ca116 : Callable Tryz.prog 116 := ⟨_, Tryz.func116, by kernel_rfl, by kernel_rfl⟩
theorem ca117 : Callable Tryz.prog 117 := ⟨_, Tryz.func117, by kernel_rfl, by kernel_rfl⟩
theorem ca118 : Callable Tryz.prog 118 := ⟨_, Tryz.func118, by kernel_rfl, by kernel_rfl⟩
theorem ca119 : Callable Tryz.prog 119 := ⟨_, Tryz.func119, by kernel_rfl, by kernel_rfl⟩
theorem ca120 : Callable Tryz.prog 120 := ⟨_, Tryz.func120, by kernel_rfl, by kernel_rfl⟩
theorem ca121 : Callable Tryz.prog 121 := ⟨_, Tryz.func121, by kernel_rfl, by kernel_rfl⟩
theorem ca122 : Callable Tryz.prog 122 := ⟨_, Tryz.func122, by kernel_rfl, by kernel_rfl⟩
theorem ca123 : Callable Tryz.prog 123 := ⟨_, Tryz.func123, by kernel_rfl, by kernel_rfl⟩
theorem ca124 : Callable Tryz.prog 124 := ⟨_, Tryz.func124, by kernel_rfl, by kernel_rfl⟩
theorem ca133 : Callable Tryz.prog 133 := ⟨_, Tryz.func133, by kernel_rfl, by kernel_rfl⟩
theorem ca165 : Callable Tryz.prog 165 := ⟨_, Tryz.func165, by kernel_rfl, by kernel_rfl⟩
theorem ca173 : Callable Tryz.prog 173 := ⟨_, Tryz.func173, by kernel_rfl, by kernel_rfl⟩
theorem ca174 : Callable Tryz.prog 174 := ⟨_, Tryz.func174, by kernel_rfl, by kernel_rfl⟩
theorem ca175 : Callable Tryz.prog 175 := ⟨_, Tryz.func175, by kernel_rfl, by kernel_rfl⟩
theorem ca176 : Callable Tryz.prog 176 := ⟨_, Tryz.func176, by kernel_rfl, by kernel_rfl⟩
theorem ca179 : Callable Tryz.prog 179 := ⟨_, Tryz.func179, by kernel_rfl, by kernel_rfl⟩
theorem ca181 : Callable Tryz.prog 181 := ⟨_, Tryz.func181, by kernel_rfl, by kernel_rfl⟩
theorem ca182 : Callable Tryz.prog 182 := ⟨_, Tryz.func182, by kernel_rfl, by kernel_rfl⟩
theorem ca183 : Callable Tryz.prog 183 := ⟨_, Tryz.func183, by kernel_rfl, by kernel_rfl⟩
theorem ca184 : Callable Tryz.prog 184 := ⟨_, Tryz.func184, by kernel_rfl, by kernel_rfl⟩
theorem ca185 : Callable Tryz.prog 185 := ⟨_, Tryz.func185, by kernel_rfl, by kernel_rfl⟩
theorem ca186 : Callable Tryz.prog 186 := ⟨_, Tryz.func186, by kernel_rfl, by kernel_rfl⟩
theorem ca187 : Callable Tryz.prog 187 := ⟨_, Tryz.func187, by kernel_rfl, by kernel_rfl⟩
theorem ca188 : Callable Tryz.prog 188 := ⟨_, Tryz.func188, by kernel_rfl, by kernel_rfl⟩
theorem ca189 : Callable Tryz.prog 189 := ⟨_, Tryz.func189, by kernel_rfl, by kernel_rfl⟩
theorem ca190 : Callable Tryz.prog 190 := ⟨_, Tryz.func190, by kernel_rfl, by kernel_rfl⟩
theorem ca191 : Callable Tryz.prog 191 := ⟨_, Tryz.func191, by kernel_rfl, by kernel_rfl⟩
theorem ca192 : Callable Tryz.prog 192 := ⟨_, Tryz.func192, by kernel_rfl, by kernel_rfl⟩
theorem ca193 : Callable Tryz.prog 193 := ⟨_, Tryz.func193, by kernel_rfl, by kernel_rfl⟩
theorem ca194 : Callable Tryz.prog 194 := ⟨_, Tryz.func194, by kernel_rfl, by kernel_rfl⟩
theorem ca195 : Callable Tryz.prog 195 := ⟨_, Tryz.func195, by kernel_rfl, by kernel_rfl⟩
theorem ca196 : Callable Tryz.prog 196 := ⟨_, Tryz.func196, by kernel_rfl, by kernel_rfl⟩
theorem ca197 : Callable Tryz.prog 197 := ⟨_, Tryz.func197, by kernel_rfl, by kernel_rfl⟩
theorem ca198 : Callable Tryz.prog 198 := ⟨_, Tryz.func198, by kernel_rfl, by kernel_rfl⟩
theorem ca199 : Callable Tryz.prog 199 := ⟨_, Tryz.func199, by kernel_rfl, by kernel_rfl⟩
theorem ca200 : Callable Tryz.prog 200 := ⟨_, Tryz.func200, by kernel_rfl, by kernel_rfl⟩
theorem ca201 : Callable Tryz.prog 201 := ⟨_, Tryz.func201, by kernel_rfl, by kernel_rfl⟩
theorem ca202 : Callable Tryz.prog 202 := ⟨_, Tryz.func202, by kernel_rfl, by kernel_rfl⟩
theorem ca203 : Callable Tryz.prog 203 := ⟨_, Tryz.func203, by kernel_rfl, by kernel_rfl⟩
theorem ca217 : Callable Tryz.prog 217 := ⟨_, Tryz.func217, by kernel_rfl, by kernel_rfl⟩
theorem ca262 : Callable Tryz.prog 262 := ⟨_, Tryz.func262, by kernel_rfl, by kernel_rfl⟩
theorem ca264 : Callable Tryz.prog 264 := ⟨_, Tryz.func264, by kernel_rfl, by kernel_rfl⟩
theorem ca266 : Callable Tryz.prog 266 := ⟨_, Tryz.func266, by kernel_rfl, by kernel_rfl⟩
theorem ca267 : Callable Tryz.prog 267 := ⟨_, Tryz.func267, by kernel_rfl, by kernel_rfl⟩
theorem ca268 : Callable Tryz.prog 268 := ⟨_, Tryz.func268, by kernel_rfl, by kernel_rfl⟩
theorem ca276 : Callable Tryz.prog 276 := ⟨_, Tryz.func276, by kernel_rfl, by kernel_rfl⟩
theorem ca277 : Callable Tryz.prog 277 := ⟨_, Tryz.func277, by kernel_rfl, by kernel_rfl⟩
theorem ca278 : Callable Tryz.prog 278 := ⟨_, Tryz.func278, by kernel_rfl, by kernel_rfl⟩
theorem ca326 : Callable Tryz.prog 326 := ⟨_, Tryz.func326, by kernel_rfl, by kernel_rfl⟩
theorem ca327 : Callable Tryz.prog 327 := ⟨_, Tryz.func327, by kernel_rfl, by kernel_rfl⟩
theorem ca332 : Callable Tryz.prog 332 := ⟨_, Tryz.func332, by kernel_rfl, by kernel_rfl⟩
theorem ca333 : Callable Tryz.prog 333 := ⟨_, Tryz.func333, by kernel_rfl, by kernel_rfl⟩
theorem ca368 : Callable Tryz.prog 368 := ⟨_, Tryz.func368, by kernel_rfl, by kernel_rfl⟩
theorem mixed : Tryz.prog.follows .mixedOrders = true := by kernel_rfl
end Go.Q
namespace Go.Q
open Go.Proofs Go.Shelf
def jl_ren : Go.Shelf.Ren := ⟨fun | 156 => 118 | 165 => 178 | 166 => 179 | 169 => 181 | 240 => 264 | 241 => 265 | 276 => 324 | 277 => 325 | n => n, fun | 31 => 46 | 9 => 9 | 3 => 3 | 4 => 4 | 0 => 0 | 20 => 20 | 72 => 249 | 76 => 252 | 70 => 247 | 37 => 30 | 75 => 251 | 127 => 356 | 164 => 407 | 5 => 5 | 80 => 147 | n => n, fun | n => n⟩
theorem jl : Go.Proofs.Lays.n156 Tryz.prog jl_ren := {
 mixed := by kernel_rfl
 f156 := Tryz.func118.trans (congrArg some (by kernel_rfl))
 f165 := Tryz.func178.trans (congrArg some (by kernel_rfl))
 f166 := Tryz.func179.trans (congrArg some (by kernel_rfl))
 f169 := Tryz.func181.trans (congrArg some (by kernel_rfl))
 f240 := Tryz.func264.trans (congrArg some (by kernel_rfl))
 f241 := Tryz.func265.trans (congrArg some (by kernel_rfl))
 f276 := Tryz.func324.trans (congrArg some (by kernel_rfl))
 f277 := Tryz.func325.trans (congrArg some (by kernel_rfl))
 t0 := Tryz.underlying0
 a0 := Tryz.isAgg0
 z0 := Tryz.sizeOf0
 v0 := Tryz.zeroValue0
 t3 := Tryz.underlying3
 a3 := Tryz.isAgg3
 z3 := Tryz.sizeOf3
 v3 := Tryz.zeroValue3
 t4 := Tryz.underlying4
 a4 := Tryz.isAgg4
 z4 := Tryz.sizeOf4
 v4 := Tryz.zeroValue4
 t9 := Tryz.underlying9
 a9 := Tryz.isAgg9
 z9 := Tryz.sizeOf9
 v9 := Tryz.zeroValue9
 t20 := Tryz.underlying20
 a20 := Tryz.isAgg20
 z20 := Tryz.sizeOf20
 v20 := Tryz.zeroValue20
 t31 := Tryz.underlying46
 a31 := Tryz.isAgg46
 z31 := Tryz.sizeOf46
 v31 := Tryz.zeroValue46
 t37 := Tryz.underlying30
 a37 := Tryz.isAgg30
 z37 := Tryz.sizeOf30
 v37 := Tryz.zeroValue30
 t70 := Tryz.underlying247
 a70 := Tryz.isAgg247
 z70 := Tryz.sizeOf247
 v70 := Tryz.zeroValue247
 t72 := Tryz.underlying249
 a72 := Tryz.isAgg249
 z72 := Tryz.sizeOf249
 v72 := Tryz.zeroValue249
 t75 := Tryz.underlying251
 a75 := Tryz.isAgg251
 z75 := Tryz.sizeOf251
 v75 := Tryz.zeroValue251
 t76 := Tryz.underlying252
 a76 := Tryz.isAgg252
 z76 := Tryz.sizeOf252
 v76 := Tryz.zeroValue252
 t127 := Tryz.underlying356
 a127 := Tryz.isAgg356
 z127 := Tryz.sizeOf356
 v127 := Tryz.zeroValue356
 t164 := Tryz.underlying407
 a164 := Tryz.isAgg407
 z164 := Tryz.sizeOf407
 v164 := Tryz.zeroValue407 }
def rpl_ren : Go.Shelf.Ren := ⟨fun | 105 => 91 | 212 => 173 | 99 => 177 | 165 => 178 | 166 => 179 | 170 => 180 | 169 => 181 | 263 => 260 | 264 => 261 | 206 => 263 | 240 => 264 | 241 => 265 | 276 => 324 | 277 => 325 | n => n, fun | 9 => 9 | 3 => 3 | 4 => 4 | 20 => 20 | 0 => 0 | 46 => 65 | 109 => 243 | 5 => 5 | 72 => 249 | 76 => 252 | 51 => 349 | 146 => 350 | 53 => 352 | 148 => 353 | 70 => 247 | 37 => 30 | 75 => 251 | 127 => 356 | 164 => 407 | 80 => 147 | n => n, fun | n => n⟩
theorem rpl : Go.Proofs.Lays.n105 Tryz.prog rpl_ren := {
 mixed := by kernel_rfl
 f99 := Tryz.func177.trans (congrArg some (by kernel_rfl))
 f105 := Tryz.func91.trans (congrArg some (by kernel_rfl))
 f165 := Tryz.func178.trans (congrArg some (by kernel_rfl))
 f166 := Tryz.func179.trans (congrArg some (by kernel_rfl))
 f169 := Tryz.func181.trans (congrArg some (by kernel_rfl))
 f170 := Tryz.func180.trans (congrArg some (by kernel_rfl))
 f206 := Tryz.func263.trans (congrArg some (by kernel_rfl))
 f212 := Tryz.func173.trans (congrArg some (by kernel_rfl))
 f240 := Tryz.func264.trans (congrArg some (by kernel_rfl))
 f241 := Tryz.func265.trans (congrArg some (by kernel_rfl))
 f263 := Tryz.func260.trans (congrArg some (by kernel_rfl))
 f264 := Tryz.func261.trans (congrArg some (by kernel_rfl))
 f276 := Tryz.func324.trans (congrArg some (by kernel_rfl))
 f277 := Tryz.func325.trans (congrArg some (by kernel_rfl))
 t0 := Tryz.underlying0
 a0 := Tryz.isAgg0
 z0 := Tryz.sizeOf0
 v0 := Tryz.zeroValue0
 t3 := Tryz.underlying3
 a3 := Tryz.isAgg3
 z3 := Tryz.sizeOf3
 v3 := Tryz.zeroValue3
 t4 := Tryz.underlying4
 a4 := Tryz.isAgg4
 z4 := Tryz.sizeOf4
 v4 := Tryz.zeroValue4
 t5 := Tryz.underlying5
 a5 := Tryz.isAgg5
 z5 := Tryz.sizeOf5
 v5 := Tryz.zeroValue5
 t9 := Tryz.underlying9
 a9 := Tryz.isAgg9
 z9 := Tryz.sizeOf9
 v9 := Tryz.zeroValue9
 t20 := Tryz.underlying20
 a20 := Tryz.isAgg20
 z20 := Tryz.sizeOf20
 v20 := Tryz.zeroValue20
 t37 := Tryz.underlying30
 a37 := Tryz.isAgg30
 z37 := Tryz.sizeOf30
 v37 := Tryz.zeroValue30
 t46 := Tryz.underlying65
 a46 := Tryz.isAgg65
 z46 := Tryz.sizeOf65
 v46 := Tryz.zeroValue65
 t51 := Tryz.underlying349
 a51 := Tryz.isAgg349
 z51 := Tryz.sizeOf349
 v51 := Tryz.zeroValue349
 t53 := Tryz.underlying352
 a53 := Tryz.isAgg352
 z53 := Tryz.sizeOf352
 v53 := Tryz.zeroValue352
 t70 := Tryz.underlying247
 a70 := Tryz.isAgg247
 z70 := Tryz.sizeOf247
 v70 := Tryz.zeroValue247
 t72 := Tryz.underlying249
 a72 := Tryz.isAgg249
 z72 := Tryz.sizeOf249
 v72 := Tryz.zeroValue249
 t75 := Tryz.underlying251
 a75 := Tryz.isAgg251
 z75 := Tryz.sizeOf251
 v75 := Tryz.zeroValue251
 t76 := Tryz.underlying252
 a76 := Tryz.isAgg252
 z76 := Tryz.sizeOf252
 v76 := Tryz.zeroValue252
 t109 := Tryz.underlying243
 a109 := Tryz.isAgg243
 z109 := Tryz.sizeOf243
 v109 := Tryz.zeroValue243
 t127 := Tryz.underlying356
 a127 := Tryz.isAgg356
 z127 := Tryz.sizeOf356
 v127 := Tryz.zeroValue356
 t146 := Tryz.underlying350
 a146 := Tryz.isAgg350
 z146 := Tryz.sizeOf350
 v146 := Tryz.zeroValue350
 t148 := Tryz.underlying353
 a148 := Tryz.isAgg353
 z148 := Tryz.sizeOf353
 v148 := Tryz.zeroValue353
 t164 := Tryz.underlying407
 a164 := Tryz.isAgg407
 z164 := Tryz.sizeOf407
 v164 := Tryz.zeroValue407 }
def mul_ren : Go.Shelf.Ren := ⟨fun | 212 => 173 | 263 => 260 | 264 => 261 | n => n, fun | 46 => 65 | 51 => 349 | 146 => 350 | 53 => 352 | 148 => 353 | n => n, fun | n => n⟩
theorem mul : Go.Proofs.Lays.n212 Tryz.prog mul_ren := {
 mixed := by kernel_rfl
 f212 := Tryz.func173.trans (congrArg some (by kernel_rfl))
 f263 := Tryz.func260.trans (congrArg some (by kernel_rfl))
 f264 := Tryz.func261.trans (congrArg some (by kernel_rfl))
 t46 := Tryz.underlying65
 a46 := Tryz.isAgg65
 z46 := Tryz.sizeOf65
 v46 := Tryz.zeroValue65
 t51 := Tryz.underlying349
 a51 := Tryz.isAgg349
 z51 := Tryz.sizeOf349
 v51 := Tryz.zeroValue349
 t53 := Tryz.underlying352
 a53 := Tryz.isAgg352
 z53 := Tryz.sizeOf352
 v53 := Tryz.zeroValue352
 t146 := Tryz.underlying350
 a146 := Tryz.isAgg350
 z146 := Tryz.sizeOf350
 v146 := Tryz.zeroValue350
 t148 := Tryz.underlying353
 a148 := Tryz.isAgg353
 z148 := Tryz.sizeOf353
 v148 := Tryz.zeroValue353 }
theorem jl_extra : Builder.Extra Tryz.prog jl_ren := {
 sizeBuilder := by kernel_rfl
 liesBuilder := by kernel_rfl
 t5 := Tryz.underlying5
 a5 := Tryz.isAgg5
 z5 := Tryz.sizeOf5
 v5 := Tryz.zeroValue5
 infoByte := by kernel_rfl
 cellsByte := by kernel_rfl
 sizeByte := by kernel_rfl
 neB5 := by decide }
theorem Has.of_below {E w w' : World} {ss : List (List Hp)} (H : Has E w ss) (hb : Go.RowKit.Below w.heap.size w w') : Has E w' ss :=
 ⟨hb.os.trans H.os, hb.tape.trans H.tape, hb.output.trans H.output, H.dj, fun h hh b o ho => by
  have h1 := Has0.sub H h hh b o ho
  rw [hb.block b (Array.getElem?_eq_some_iff.1 h1).1]; exact h1⟩
theorem join_flat : ∀ l : List (List UInt8), Lib.join l [] = l.flatten
 | [] => rfl
 | [x] => by rw [Lib.join_one]; simp
 | x :: y :: r => by
  have h := join_flat (y :: r)
  unfold Lib.join List.intercalate at *
  rw [List.intersperse_cons_cons, List.flatten_cons, List.flatten_cons, h, List.nil_append]; rfl
theorem join_c {E w : World} {R : List Hp} (hH : Has E w [R]) {v : Value} {l : List (List UInt8)} (hv : Sl R 1 v l.length (l.map S)) (hn : l.length ≤ 1000000) (hl : l.flatten.length ≤ 140737488355328) :
  Calls Tryz.prog 118 #[v, S []] w fun e w' => e = .returned (S l.flatten) ∧ Has E w' [R] := by
 obtain ⟨p, cap, rfl, h1, h2, h3, h4⟩ := hv
 rcases Nat.eq_zero_or_pos l.length with h0 | h0
 ·
  obtain rfl := List.eq_nil_of_length_eq_zero h0
  exact (Any.strings_Join_none jl jl_extra p cap ⟨#[]⟩ w).mono fun e w' ⟨he, hw⟩ => ⟨he, by rw [hw]; exact hH⟩
 ·
  obtain ⟨b, off, rfl, hc⟩ := h4 h0
  have hcell : ∀ (j : Nat) x, (l.map (fun a => (⟨a.toArray⟩ : ByteArray)))[j]? = some x → w.cell? ⟨b, off + j, none⟩ = some (.string x) := fun j x hx => by
   rw [List.getElem?_map, Option.map_eq_some_iff] at hx
   obtain ⟨a, ha, rfl⟩ := hx
   exact hH.cell (L := R) (by simp) hc (v := S a) (by rw [List.getElem?_map, ha]; rfl)
  have hb : b < w.heap.size := by
   obtain ⟨x, hx⟩ : ∃ x, l[0]? = some x := ⟨l[0], List.getElem?_eq_getElem h0⟩
   have := hcell 0 ⟨x.toArray⟩ (by rw [List.getElem?_map, hx]; rfl)
   unfold World.cell? at this
   cases hw : w.heap[b]? with
   | none => rw [hw] at this; cases this
   | some o => exact (Array.getElem?_eq_some_iff.1 hw).1
  have e1 : (l.map (fun a => (⟨a.toArray⟩ : ByteArray))).map (·.data.toList) = l := by rw [List.map_map]; simp [Function.comp_def]
  have hj : Lib.join ((l.map (fun a => (⟨a.toArray⟩ : ByteArray))).map (·.data.toList)) ((⟨#[]⟩ : ByteArray).data.toList) = l.flatten := by rw [e1]; exact join_flat l
  have hs := Any.strings_Join jl jl_extra b off cap (l.map (fun a => (⟨a.toArray⟩ : ByteArray))) ⟨#[]⟩ w hcell hb (by rw [List.length_map]; omega) (by rw [List.length_map]; exact h1) (by rw [hj]; omega)
  rw [hj, List.length_map] at hs
  exact hs.mono fun e w' ⟨he, hb⟩ => ⟨he, hH.of_below hb⟩
theorem rpl_extra : Builder.Extra Tryz.prog rpl_ren := {
 sizeBuilder := by kernel_rfl
 liesBuilder := by kernel_rfl
 t5 := Tryz.underlying5
 a5 := Tryz.isAgg5
 z5 := Tryz.sizeOf5
 v5 := Tryz.zeroValue5
 infoByte := by kernel_rfl
 cellsByte := by kernel_rfl
 sizeByte := by kernel_rfl
 neB5 := by decide }
theorem repeat_c {E w : World} {R : List Hp} (hH : Has E w [R]) (n : Nat) (hn : n ≤ 1000000) : Calls Tryz.prog 91 #[S [0], .int .i64 (n : Int)] w fun e w' => e = .returned (S (List.replicate n 0)) ∧ Has E w' [R] := by
 have h := Any.strings_Repeat rpl rpl_extra ⟨#[0]⟩ n w (by omega) (by show 1 * n ≤ _; omega)
 refine h.mono fun e w' ⟨he, hb⟩ => ⟨?_, hH.of_below hb⟩
 rw [he]
 have : ∀ n, Lib.repeatL [(0 : UInt8)] n = List.replicate n 0 := fun n => by
  induction n with
  | zero => rfl
  | succ n ih => simp [Lib.repeatL, List.replicate_succ] at *; try exact ih
 exact congrArg (fun l => Ending.returned (Value.string ⟨l.toArray⟩)) (this n)
theorem mul_c {E w : World} {R : List Hp} (hH : Has E w [R]) (x y : Nat) (h : x * y < 18446744073709551616) (hx : x < 18446744073709551616) (hy : y < 18446744073709551616) : Calls Tryz.prog 173 #[.int .u64 x, .int .u64 y] w fun e w' => e = .returned (.tuple #[.int .u64 0, .int .u64 ((x * y : Nat) : Int)]) ∧ Has E w' [R] := by
 refine (Any.bits_Mul mul x y hx hy w).mono fun e w' ⟨he, hw⟩ => ⟨?_, hw ▸ hH⟩
 rw [he, Nat.div_eq_of_lt h, Nat.mod_eq_of_lt h]; rfl
end Go.Q
namespace Go.Q
open Go.Proofs
set_option linter.unusedVariables false
set_option maxRecDepth 100000
attribute [local irreducible] wpList OK Code.wp
theorem use_c {E w : World} {R : List Hp} {pb : Nat} {p : Pw} (hH : Has E w [(yP pb p), R]) (hp : PwOk p) :
  Calls Tryz.prog 124 #[(yp pb)] w fun e w' => e = .returned (.bool (useB p)) ∧ Has E w' [(yP pb (useS p)), R] := by
 obtain ⟨hu1, hu2, hu3, hu4⟩ := hp
 refine zs (args := [(yp pb)]) Tryz.func124 rfl Tryz.ntmps124 (by simp) (yq fun K1 hK1 => (zd (za (zc (.bool false) rfl (zf (ze (hK1 _ _ (yq fun K2 hK2 => (yq fun K3 hK3 => (zd (za (zb (yp pb) rfl (za (zl rfl (za (zg (k := 0) (fun _ => by kernel_rfl) rfl (za (zj (v := (.bool p.off)) Tryz.underlying4 rfl rfl hH (zh 0 rfl) (CellsAt.one rfl) (zf (ze (hK3 _ _ ?_)))))))))))))))))))))
 refine z7 rfl (fun h4 => ?_) (fun h4 => ?_)
 ·
  refine yq fun K5 hK5 => (zd (za (zc (.bool false) rfl (zf (ze (hK5 _ _ (wp_ret (zx (zr Tryz.results124  (v := (.bool false)) rfl ?_)))))))))
  have e_ : useS p = p := by simp [useS, h4]
  exact ⟨by simp [useB, h4], by rw [e_]; exact hH⟩
 ·
  refine wp_skip (ze (hK2 _ _ (yq fun K6 hK6 => (zd (za (zb (yp pb) rfl (za (zl rfl (za (zg (k := 3) (fun _ => by kernel_rfl) rfl (za (zj (v := (yi p.uses)) Tryz.underlying3 rfl rfl hH (zh 0 rfl) (CellsAt.one rfl) (za (zD (a := p.uses) (b := 1) rfl rfl (w64 (by omega) (by omega)) (za (zl rfl (za (zg (k := 3) (fun _ => by kernel_rfl) rfl (zB (zH (c' := #[(.bool p.off), (.bool p.armed), (yi p.left), (yi (p.uses + 1))]) ti3 rfl rfl rfl (by simp) rfl (hH.front 0 rfl) fun w7 hH8 => (zf (ze (hK6 _ _ (yq fun K9 hK9 => ?_))))))))))))))))))))))))
  refine zd (za (zb (yp pb) rfl (za (zb (yp pb) rfl (za (zl rfl (za (zg (k := 1) (fun _ => by kernel_rfl) rfl (za (zj (v := (.bool p.armed)) Tryz.underlying4 rfl rfl hH8 (zh 0 rfl) (CellsAt.one rfl) (za (zb (.bool p.armed) rfl ?_))))))))))))
  rcases Bool.eq_false_or_eq_true p.armed with h10 | h10
  ·
   refine zo 19 rfl (congrArg Value.bool h10) (zb (yp pb) rfl (zo 19 rfl (congrArg Value.bool h10) (zl rfl (zo 19 rfl (congrArg Value.bool h10) (zg (k := 2) (fun _ => by kernel_rfl) rfl (zo 19 rfl (congrArg Value.bool h10) (zj (v := (yi p.left)) Tryz.underlying3 rfl rfl hH8 (zh 0 rfl) (CellsAt.one rfl) (zo 19 rfl (congrArg Value.bool h10) (yc (a := p.left) (b := 0) rfl rfl (za (zq (u := (.bool (decide (p.left = 0)))) ((rfl : _ = _).trans (congrArg Value.bool h10)) rfl (za (zl rfl (za (zg (k := 0) (fun _ => by kernel_rfl) rfl (zB (zH (c' := #[(.bool (decide (p.left = 0))), (.bool p.armed), (yi p.left), (yi (p.uses + 1))]) ti4 rfl rfl rfl (by simp) rfl (hH8.front 0 rfl) fun w11 hH12 => (zf (ze (hK9 _ _ (yq fun K13 hK13 => (zd (za (zb (yp pb) rfl (za (zl rfl ?_))))))))))))))))))))))))))
   refine za (zg (k := 2) (fun _ => by kernel_rfl) rfl (za (zj (v := (yi p.left)) Tryz.underlying3 rfl rfl hH12 (zh 0 rfl) (CellsAt.one rfl) (za (o_sub (a := p.left) (b := 1) rfl rfl (w64 (by omega) (by omega)) (za (zl rfl (za (zg (k := 2) (fun _ => by kernel_rfl) rfl (zB (zH (c' := #[(.bool (decide (p.left = 0))), (.bool p.armed), (yi (p.left - 1)), (yi (p.uses + 1))]) ti3 rfl rfl rfl (by simp) rfl (hH12.front 0 rfl) fun w14 hH15 => (zf (ze (hK13 _ _ (yq fun K16 hK16 => (zd (za (zb (yp pb) rfl (za (zl rfl (za (zg (k := 0) (fun _ => by kernel_rfl) rfl (za (zj (v := (.bool (decide (p.left = 0)))) Tryz.underlying4 rfl rfl hH15 (zh 0 rfl) (CellsAt.one rfl) (za (o_not2 (b := decide (p.left = 0)) (b' := decide (¬ (p.left = 0))) rfl not_dec ?_))))))))))))))))))))))))))
   refine za (zc (.bool (decide (¬ (p.left = 0)))) rfl (zf (ze (hK16 _ _ (wp_ret (zr Tryz.results124  (v := (.bool (decide (¬ (p.left = 0))))) rfl ?_))))))
   have e_ : useS p = ⟨decide (p.left = 0), p.armed, p.left - 1, p.uses + 1⟩ := by simp [useS, h4, h10]
   exact ⟨by simp [useB, e_, h4, h10], by rw [e_]; exact hH15⟩
  ·
   refine zi (b' := false) 19 rfl (congrArg Value.bool h10) rfl (zi (b' := false) 19 rfl (congrArg Value.bool h10) rfl (zi (b' := false) 19 rfl (congrArg Value.bool h10) rfl (zi (b' := false) 19 rfl (congrArg Value.bool h10) rfl (zi (b' := false) 19 rfl (congrArg Value.bool h10) rfl (za (zm (u := (.bool false)) ((rfl : _ = _).trans (congrArg Value.bool h10)) rfl (za (zl rfl (za (zg (k := 0) (fun _ => by kernel_rfl) rfl (zB (zH (c' := #[(.bool false), (.bool p.armed), (yi p.left), (yi (p.uses + 1))]) ti4 rfl rfl rfl (by simp) rfl (hH8.front 0 rfl) fun w17 hH18 => (zf (ze (hK9 _ _ (yq fun K19 hK19 => (zd (za (zb (yp pb) rfl (za (zl rfl ?_)))))))))))))))))))))
   refine za (zg (k := 2) (fun _ => by kernel_rfl) rfl (za (zj (v := (yi p.left)) Tryz.underlying3 rfl rfl hH18 (zh 0 rfl) (CellsAt.one rfl) (za (o_sub (a := p.left) (b := 1) rfl rfl (w64 (by omega) (by omega)) (za (zl rfl (za (zg (k := 2) (fun _ => by kernel_rfl) rfl (zB (zH (c' := #[(.bool false), (.bool p.armed), (yi (p.left - 1)), (yi (p.uses + 1))]) ti3 rfl rfl rfl (by simp) rfl (hH18.front 0 rfl) fun w20 hH21 => (zf (ze (hK19 _ _ (yq fun K22 hK22 => (zd (za (zb (yp pb) rfl (za (zl rfl (za (zg (k := 0) (fun _ => by kernel_rfl) rfl (za (zj (v := (.bool false)) Tryz.underlying4 rfl rfl hH21 (zh 0 rfl) (CellsAt.one rfl) (za (o_not rfl ?_))))))))))))))))))))))))))
   refine za (zc (.bool true) rfl (zf (ze (hK22 _ _ (wp_ret (zr Tryz.results124  (v := (.bool true)) rfl ?_))))))
   have e_ : useS p = ⟨false, p.armed, p.left - 1, p.uses + 1⟩ := by simp [useS, h4, h10]
   exact ⟨by simp [useB, e_, h4, h10], by rw [e_]; exact hH21⟩
theorem pon_c {E w : World} {R : List Hp} {pb : Nat} {p : Pw} (hH : Has E w [(yP pb p), R]) :
  Calls Tryz.prog 165 #[(yp pb)] w fun e w' => e = .returned (.bool (!p.off)) ∧ Has E w' [(yP pb p), R] := by
 refine zs (args := [(yp pb)]) Tryz.func165 rfl Tryz.ntmps165 (by simp) (yq fun K1 hK1 => (zd (za (zc (.bool false) rfl (zf (ze (hK1 _ _ (yq fun K2 hK2 => (zd (za (zb (yp pb) rfl (za (o_pnnil (p := some _) Tryz.underlying97 rfl rfl (za (zb (.bool true) rfl (zo 5 rfl rfl (zb (yp pb) rfl (zo 5 rfl rfl (zl rfl (zo 5 rfl rfl (zg (k := 0) (fun _ => by kernel_rfl) rfl (zo 5 rfl rfl (zj (v := (.bool p.off)) Tryz.underlying4 rfl rfl hH (zh 0 rfl) (CellsAt.one rfl) ?_)))))))))))))))))))))))
 refine zo 5 rfl rfl (o_not rfl (za (zq (u := (.bool (!p.off))) rfl rfl (za (zc (.bool (!p.off)) rfl (zf (ze (hK2 _ _ (wp_ret (zr Tryz.results165  (v := (.bool (!p.off))) rfl ?_))))))))))
 exact ⟨rfl, hH⟩
theorem pback_c {E w : World} {R : List Hp} {pb : Nat} {p : Pw} (hH : Has E w [(yP pb p), R]) :
  Calls Tryz.prog 113 #[(yp pb)] w fun e w' => e = .returned (.tuple #[]) ∧ Has E w' [(yP pb (backS p)), R] := by
 refine zs (args := [(yp pb)]) Tryz.func113 rfl Tryz.ntmps113 (by simp) (zd (za (zb (yp pb) rfl (za (zb (yp pb) rfl (za (zl rfl (za (zg (k := 0) (fun _ => by kernel_rfl) rfl (zB (zH (c' := #[(.bool false), (.bool p.armed), (yi p.left), (yi p.uses)]) ti4 rfl rfl rfl (by simp) rfl (hH.front 0 rfl) fun w1 hH2 => (za (zl rfl (za (zg (k := 1) (fun _ => by kernel_rfl) rfl (zB (zH (c' := #[(.bool false), (.bool false), (yi p.left), (yi p.uses)]) ti4 rfl rfl rfl (by simp) rfl (hH2.front 0 rfl) fun w3 hH4 => (zf (c_end0 Tryz.results113  ?_)))))))))))))))))))
 exact ⟨rfl, hH4⟩
theorem parm_c {E w : World} {R : List Hp} {pb : Nat} {p : Pw} (hH : Has E w [(yP pb p), R]) (n : Int) :
  Calls Tryz.prog 105 #[(yp pb), (yi n)] w fun e w' => e = .returned (.tuple #[]) ∧ Has E w' [(yP pb (armS p n)), R] := by
 refine zs (args := [(yp pb), (yi n)]) Tryz.func105 rfl Tryz.ntmps105 (by simp) (yq fun K1 hK1 => (zd (za (zb (yp pb) rfl (za (o_pnnil (p := some _) Tryz.underlying97 rfl rfl (zf (ze (hK1 _ _ (zP rfl rfl (zd (za (zb (yp pb) rfl (za (zb (yp pb) rfl (za (zb (yi n) rfl (za (o_max (a := n) (b := 0) rfl rfl (za (zl rfl (za (zg (k := 1) (fun _ => by kernel_rfl) rfl ?_)))))))))))))))))))))))
 refine zB (zH (c' := #[(.bool p.off), (.bool true), (yi p.left), (yi p.uses)]) ti4 rfl rfl rfl (by simp) rfl (hH.front 0 rfl) fun w2 hH3 => (za (zl rfl (za (zg (k := 2) (fun _ => by kernel_rfl) rfl (zB (zH (c' := #[(.bool p.off), (.bool true), (yi (max n 0)), (yi p.uses)]) ti3 rfl rfl rfl (by simp) rfl (hH3.front 0 rfl) fun w4 hH5 => (zf (c_end0 Tryz.results105  ?_)))))))))
 exact ⟨rfl, hH5⟩
end Go.Q
namespace Go.Q
open Go.Proofs
set_option linter.unusedVariables false
set_option maxRecDepth 100000
attribute [local irreducible] wpList OK Code.wp
theorem blank_c {E w : World} {R : List Hp} (hH : Has E w [R]) :
  Calls Tryz.prog 87 #[] w fun e w' => e = .returned (S blankS) ∧ Has E w' [R] := by
 refine zs (args := []) Tryz.func87 rfl Tryz.ntmps87 (by simp) (yq fun K1 hK1 => (zd (za (zc (S ([] : List UInt8)) rfl (zf (ze (hK1 _ _ (yq fun K2 hK2 => (zd (za (zk (vs := #[(S [0]), (yi 64)]) ca91 rfl (zF rfl rfl) (repeat_c hH.all 64 (by decide)) ?_)))))))))))
 rintro _ w5 ⟨rfl, hX3⟩
 refine ⟨_, rfl, ?_⟩
 have hH4 := hX3.of_all
 refine za (zc (S blankS) rfl (zf (ze (hK2 _ _ (wp_ret (zr Tryz.results87  (v := (S blankS)) rfl ?_))))))
 exact ⟨rfl, hH4⟩
theorem filled_c {E w : World} {R : List Hp} (hH : Has E w [R]) {v : Value} {l : List Bs} (hv : Sl R 1 v l.length (l.map sV)) (hn : l.length ≤ 1000000) (hl : l.flatten.length ≤ 1000000000) :
  Calls Tryz.prog 92 #[v] w fun e w' => e = .returned (.tuple #[S (if l.flatten.length ≤ 64 then fillS l.flatten else []), .bool (decide (l.flatten.length ≤ 64))]) ∧ Has E w' [R] := by
 have hn_ := hv.le
 have hb64 := blank_len
 refine zs (args := [v]) Tryz.func92 rfl Tryz.ntmps92 (by simp) (yq fun K1 hK1 => (zd (za (zc (S ([] : List UInt8)) rfl (za (zc (.bool false) rfl (zf (ze (hK1 _ _ (yq fun K2 hK2 => (zd (za (zb v rfl (za (zk (vs := #[v, (S ([] : List UInt8))]) ca118 rfl (zF rfl rfl) (join_c hH.all (l := l) (hv.mono (zh 0 rfl)) (by omega) (by omega)) ?_)))))))))))))))
 rintro _ w5 ⟨rfl, hX3⟩
 refine ⟨_, rfl, ?_⟩
 have hH4 := hX3.of_all
 refine za (zc (S l.flatten) rfl (zf (ze (hK2 _ _ (yq fun K6 hK6 => (yq fun K7 hK7 => (zd (za (zb (S l.flatten) rfl (za (z8 Tryz.underlying9 rfl (za (o_gtr (a := (l.flatten.length : Int)) (b := 64) rfl rfl (zf (ze (hK7 _ _ (zt rfl (fun h8 => ?_) (fun h8 => ?_))))))))))))))))))
 ·
  refine yq fun K9 hK9 => (zd (za (zc (S ([] : List UInt8)) rfl (za (zc (.bool false) rfl (zf (ze (hK9 _ _ (wp_ret (zx (ya Tryz.results92  (v := (S ([] : List UInt8))) rfl (x := (.bool false)) rfl ?_)))))))))))
  exact ⟨by rw [if_neg (by omega), decide_eq_false (by omega)], hH4⟩
 ·
  refine wp_skip (ze (hK6 _ _ (yq fun K10 hK10 => (zd (za (zb (S l.flatten) rfl (za (zk (vs := #[]) ca87 rfl (args0) (blank_c hH4.all) ?_))))))))
  rintro _ w13 ⟨rfl, hX11⟩
  refine ⟨_, rfl, ?_⟩
  have hH12 := hX11.of_all
  refine za (zb (S l.flatten) rfl (za (z8 Tryz.underlying9 rfl (za (o_ssl_l Tryz.underlying9 rfl rfl (by omega) (by first | omega | (rw [blank_len]; omega)) (za (o_sadd rfl rfl (by rw [List.length_drop, blank_len]; omega) (za (zc (S (l.flatten ++ (blankS.drop ((l.flatten.length : Int)).toNat))) rfl (za (zc (.bool true) rfl (zf (ze (hK10 _ _ (wp_ret (ya Tryz.results92  (v := (S (l.flatten ++ (blankS.drop ((l.flatten.length : Int)).toNat)))) rfl (x := (.bool true)) rfl ?_))))))))))))))))
  exact ⟨by rw [if_pos (by omega), decide_eq_true (by omega)]; rfl, hH12⟩
end Go.Q
namespace Go.Q
def vsOf (ops : List Oper) (r : Nat → Value) : Nat → Value := fun j => match ops[j]? with | some o => slot r o | none => undef
def msk (ops : List Oper) (i : Nat) (vs : Nat → Value) : Nat → Value := fun j => if anc ops ops.length i j = true then vs j else undef
structure Turn2 (E : World) (ops : List Oper) (F : List (List Hp)) (C : Nat → List Hp) (Tp : Nat → Value → List Hp → (Nat → Value) → Prop) (N : Nat) (r : Nat → Value) (i : Nat) (r' : Nat → Value) (w : World) (G : List (List Hp)) (hs : Nat → List Hp) : Prop where
 has : Has E w (C i :: G)
 fr : ∀ s ∈ F, s ⊆ G.flatten
 done : ∀ j o, ops[j]? = some o → anc ops ops.length i j = true → Tp j (slot r' o) (hs j) (msk ops j (vsOf ops r')) ∧ hs j ⊆ G.flatten
 todo : ∀ j, anc ops ops.length j i = true → C j ⊆ G.flatten
 old : ∀ t, (∀ j o, ops[j]? = some o → o.dst = some t → j = i ∨ anc ops ops.length j i = true) → r' t = r t
 each : ∀ j o, ops[j]? = some o → j ≠ i → C j ⊆ G.flatten ∨ (∃ v m, Tp j v (hs j) m) ∧ hs j ⊆ G.flatten
theorem Turn2.was {E : World} {ops : List Oper} {F : List (List Hp)} {C : Nat → List Hp} {Tp : Nat → Value → List Hp → (Nat → Value) → Prop} {N : Nat} {r : Nat → Value} {i : Nat} {r' : Nat → Value} {w : World} {G : List (List Hp)} {hs : Nat → List Hp}
  (H : Turn2 E ops F C Tp N r i r' w G hs) (t : Nat) (h : oldB ops i t = true) : r' t = r t := by
 refine H.old t fun j o ho hd => ?_
 unfold oldB at h
 rw [List.all_eq_true] at h
 have := h j (List.mem_range.2 (List.getElem?_eq_some_iff.1 ho).1)
 simp only [ho, Bool.or_eq_true, bne_iff_ne, beq_iff_eq] at this
 rcases this with (h | h) | h
 · exact absurd hd h
 · exact .inl h
 · exact .inr h
end Go.Q
namespace Go.Q
def flowOk3 (ops : List Oper) : Bool :=
 ((List.range ops.length).all fun i => match ops[i]? with
  | some o => (depsOf ops i).all (fun d => decide (d < i)) && (List.range ops.length).all fun j => j == i || match ops[j]? with
   | some o' => o.dst.isNone || o'.dst != o.dst
   | none => true
  | none => true)
theorem flowOk3_spec {ops : List Oper} (h : flowOk3 ops = true) {i : Nat} {o : Oper} (ho : ops[i]? = some o) :
  (∀ d ∈ depsOf ops i, d < i) ∧ ∀ j o' t, ops[j]? = some o' → j ≠ i → o.dst = some t → o'.dst ≠ some t := by
 unfold flowOk3 at h
 rw [List.all_eq_true] at h
 have hi : i < ops.length := (List.getElem?_eq_some_iff.1 ho).1
 have h1 := h i (List.mem_range.2 hi)
 simp only [ho, Bool.and_eq_true, List.all_eq_true, decide_eq_true_eq] at h1
 obtain ⟨hd, hj⟩ := h1
 refine ⟨hd, fun j o' t hj' hne ht => ?_⟩
 have := hj j (List.mem_range.2 (List.getElem?_eq_some_iff.1 hj').1)
 simp only [hj', ht, Option.isNone_some, Bool.false_or, Bool.or_eq_true, beq_iff_eq, bne_iff_ne] at this
 rcases this with h | h
 · exact absurd h hne
 · exact h
theorem anc_trans3 {ops : List Oper} (_h : flowOk3 ops = true) {listed : Array Bool} (hc : ∀ i, listed.getD i false = true → ∀ d ∈ depsOf ops i, listed.getD d false = true) :
  ∀ f i j, anc ops f i j = true → (∀ d ∈ depsOf ops i, listed.getD d false = true) → listed.getD j false = true := by
 intro f
 induction f with
 | zero => intro i j h; simp [anc] at h
 | succ f ih =>
  intro i j h hd
  rw [anc, List.any_eq_true] at h
  obtain ⟨d, hdm, hh⟩ := h
  rw [Bool.or_eq_true] at hh
  rcases hh with e | e
  · rw [← beq_iff_eq.1 e]; exact hd d hdm
  · exact ih d j e (hc d (hd d hdm))
def GOK (P : Program) (ops : List Oper) (o : Oper) (N : Nat) (r : Nat → Value) (w : World) (K : Value → World → Prop) : Prop := match o.guard with
 | none => OK P o (ev N r) w K
 | some (g, b) => ∃ t, dstOf ops g = some t ∧ (ev N r (.tmp t) = .bool b ∧ OK P o (ev N r) w K ∨ ((∃ b', ev N r (.tmp t) = .bool b' ∧ (b' == b) = false) ∨ ev N r (.tmp t) = undef) ∧ K undef w)
theorem GOK.on {P : Program} {ops : List Oper} {o : Oper} {N : Nat} {r : Nat → Value} {w : World} {K : Value → World → Prop} {g t : Nat} {b : Bool} (hg : o.guard = some (g, b)) (ht : dstOf ops g = some t) (hv : ev N r (.tmp t) = .bool b) (h : OK P o (ev N r) w K) : GOK P ops o N r w K := by
 unfold GOK; rw [hg]; exact ⟨t, ht, .inl ⟨hv, h⟩⟩
theorem GOK.off {P : Program} {ops : List Oper} {o : Oper} {N : Nat} {r : Nat → Value} {w : World} {K : Value → World → Prop} {g t : Nat} {b b' : Bool} (hg : o.guard = some (g, b)) (ht : dstOf ops g = some t) (hv : ev N r (.tmp t) = .bool b') (hne : (b' == b) = false) (h : K undef w) : GOK P ops o N r w K := by
 unfold GOK; rw [hg]; exact ⟨t, ht, .inr ⟨.inl ⟨b', hv, hne⟩, h⟩⟩
theorem GOK.free {P : Program} {ops : List Oper} {o : Oper} {N : Nat} {r : Nat → Value} {w : World} {K : Value → World → Prop} (hg : o.guard = none) (h : OK P o (ev N r) w K) : GOK P ops o N r w K := by
 unfold GOK; rw [hg]; exact h
theorem GOK.wp {P : Program} {ops : List Oper} {Q : Exit → Act → World → Prop} {o : Oper} {N i : Nat} {r : Nat → Value} {w : World} {K : Value → World → Prop} {K' : Act → World → Prop} (ho : ops.toArray[i]? = some o) (h : GOK P ops o N r w K)
  (hK : ∀ v w'', K v w'' → K' ((Go.Q.fr N r).put o.dst v) w'') : wpOp P ops.toArray Q i K' (Go.Q.fr N r) w := by
 unfold wpOp
 simp only [ho]
 obtain ⟨d, op, T, pos, after, gd⟩ := o
 unfold GOK at h
 cases gd with
 | none =>
  rw [if_pos (by simp [Region.wanted])]
  refine .inl (OK.wp ?_)
  rw [fr_eval]
  exact OK.mono h fun v w'' hk => hK v w'' hk
 | some gb =>
  obtain ⟨g, b⟩ := gb
  obtain ⟨t, ht, h⟩ := h
  obtain ⟨og, hg, ht⟩ := dstOf_spec ops g ht
  rcases h with ⟨hv, h⟩ | ⟨⟨b', hv, hne⟩ | hv, h⟩
  ·
   rw [if_pos (by rw [wanted_fr hg ht hv]; simp)]
   refine .inl (OK.wp ?_)
   rw [fr_eval]
   exact OK.mono h fun v w'' hk => hK v w'' hk
  ·
   rw [if_neg (by rw [wanted_fr hg ht hv, hne]; simp)]
   exact hK _ _ h
  ·
   have hy : yielded ops.toArray (Go.Q.fr N r).tmps g = none := by
    simp only [yielded, hg, ht, Option.bind_some, fr_at]
    by_cases h : t < N
    ·
     have hb : Nat.blt t N = true := by simpa using h
     simp only [ev, hb] at hv
     have hv' : r t = undef := hv
     rw [if_pos h, hv']; rfl
    · rw [if_neg h]
   rw [if_neg (by simp [Region.wanted, hy])]
   exact hK _ _ h
theorem msk_upd3 {ops : List Oper} {i j d : Nat} {o : Oper} {r : Nat → Value} {v : Value} (hok : flowOk3 ops = true) (ho : ops[i]? = some o) (hd : o.dst = some d) (h : ∀ k, anc ops ops.length j k = true → k ≠ i) :
  msk ops j (vsOf ops (upd r d v)) = msk ops j (vsOf ops r) := by
 funext k
 unfold msk
 split
 ·
  rename_i hk
  unfold vsOf
  cases hok' : ops[k]? with
  | none => rfl
  | some ok =>
   have hne : ok.dst ≠ some d := (flowOk3_spec hok ho).2 k ok d hok' (h k hk) hd
   show slot (upd r d v) ok = slot r ok
   unfold slot
   cases hdk : ok.dst with
   | none => rfl
   | some t => exact upd_ne _ _ (fun e => hne (hdk.trans (congrArg some e)))
 · rfl
structure Turn3 (E : World) (ops : List Oper) (F : List (List Hp)) (C : Nat → List Hp) (Tp : Nat → Value → List Hp → (Nat → Value) → Prop) (N : Nat) (r : Nat → Value) (i : Nat) (r' : Nat → Value) (w : World) (G : List (List Hp)) (hs : Nat → List Hp) : Prop where
 has : Has E w (C i :: G)
 fr : ∀ s ∈ F, s ⊆ G.flatten
 done : ∀ j o, ops[j]? = some o → anc ops ops.length i j = true → Tp j (slot r' o) (hs j) (msk ops j (vsOf ops r')) ∧ hs j ⊆ G.flatten
 todo : ∀ j, anc ops ops.length j i = true → C j ⊆ G.flatten
 old : ∀ t, (∀ j o, ops[j]? = some o → o.dst = some t → j = i ∨ anc ops ops.length j i = true) → r' t = r t
 each : ∀ j o, ops[j]? = some o → j ≠ i → C j ⊆ G.flatten ∨ (∃ v m, Tp j v (hs j) m) ∧ hs j ⊆ G.flatten
theorem Turn3.was {E : World} {ops : List Oper} {F : List (List Hp)} {C : Nat → List Hp} {Tp : Nat → Value → List Hp → (Nat → Value) → Prop} {N : Nat} {r : Nat → Value} {i : Nat} {r' : Nat → Value} {w : World} {G : List (List Hp)} {hs : Nat → List Hp}
  (H : Turn3 E ops F C Tp N r i r' w G hs) (t : Nat) (h : oldB ops i t = true) : r' t = r t := by
 refine H.old t fun j o ho hd => ?_
 unfold oldB at h
 rw [List.all_eq_true] at h
 have := h j (List.mem_range.2 (List.getElem?_eq_some_iff.1 ho).1)
 simp only [ho, Bool.or_eq_true, bne_iff_ne, beq_iff_eq] at this
 rcases this with (h | h) | h
 · exact absurd hd h
 · exact .inl h
 · exact .inr h
end Go.Q
namespace Go.Q
def barB (ops : List Oper) (m : Nat) : Bool := (List.range' m (ops.length - m)).all fun i => (List.range m).all fun j => anc ops ops.length i j
theorem barB_spec {ops : List Oper} {m : Nat} (h : barB ops m = true) : ∀ i j, m ≤ i → i < ops.length → j < m → anc ops ops.length i j = true := fun i j h1 h2 h3 => by
 unfold barB at h
 rw [List.all_eq_true] at h
 have := h i (List.mem_range'_1.2 (by omega))
 rw [List.all_eq_true] at this
 exact this j (List.mem_range.2 h3)
def Rest (P : Program) (Q : Exit → Act → World → Prop) (ops : List Oper) (m : Nat) (a : Act) (w : World) : Prop :=
 flowOk3 ops = true → ∀ (fuel : Nat) (listed : Array Bool), listed.size = ops.length → (∀ i, i < m → listed.getD i false = true) → (∀ i, m ≤ i → listed.getD i false = false) → ops.length - m ≤ fuel → wpAny P .any ops.toArray Q fuel listed a w
theorem Rest.region {P : Program} {Q : Exit → Act → World → Prop} {w : World} {N : Nat} {r : Nat → Value} {id : Nat} {ops : List Oper} (hm : P.follows .mixedOrders = true) (hok : flowOk3 ops = true) (h : Rest P Q ops 0 (Go.Q.fr N r) { w with drawn := w.drawn + 1 }) : (Code.region id ops.toArray true).wp P Q (Go.Q.fr N r) w := by
 refine wp_region_any hm (h hok _ _ (by simp) (fun i hi => absurd hi (Nat.not_lt_zero _)) (fun i _ => ?_) (by simp))
 by_cases h : i < ops.length <;> simp [h]
theorem Rest.end {P : Program} {Q : Exit → Act → World → Prop} {ops : List Oper} {a : Act} {w : World} (h : Q .normal a w) : Rest P Q ops ops.length a w := fun _ fuel listed hsz hall _ _ => by
 refine wpAny_done ?_ h fuel
 rw [List.eq_nil_iff_forall_not_mem]
 intro i hi
 obtain ⟨h0, o, ho, _⟩ := mem_ready.1 hi
 have hlt : i < ops.length := by simpa using (Array.getElem?_eq_some_iff.1 ho).1
 have h1 := hall i hlt
 have hs : i < listed.size := by omega
 simp [hs] at h0 h1; rw [h0] at h1; cases h1
theorem Rest.done {P : Program} {Q : Exit → Act → World → Prop} {ops : List Oper} {a : Act} {w : World} {m : Nat} (hm : m = ops.length) (h : Q .normal a w) : Rest P Q ops m a w := hm ▸ Rest.end h
theorem Rest.one {P : Program} {Q : Exit → Act → World → Prop} {ops : List Oper} {N : Nat} {r : Nat → Value} {w : World} {k : Nat} {o : Oper} (ho : ops[k]? = some o) (hb : barB ops (k + 1) = true)
  (h : GOK P ops o N r w fun v w'' => Rest P Q ops (k + 1) ((Go.Q.fr N r).put o.dst v) w'') : Rest P Q ops k (Go.Q.fr N r) w := by
 intro hok fuel listed hsz hall hnot hf
 have hlk : k < ops.length := (List.getElem?_eq_some_iff.1 ho).1
 obtain ⟨f, rfl⟩ : ∃ f, fuel = f + 1 := ⟨fuel - 1, by omega⟩
 have hcl : ∀ i, listed.getD i false = true → ∀ d ∈ depsOf ops i, listed.getD d false = true := fun i hi d hd => by
  have hik : i < k := by
   rcases Nat.lt_or_ge i k with g | g
   · exact g
   · rw [hnot i g] at hi; cases hi
  have := (flowOk3_spec hok (List.getElem?_eq_getElem (show i < ops.length by omega))).1 d hd
  exact hall d (by omega)
 have hkr : k ∈ Region.ready .any ops.toArray listed := by
  refine mem_ready.2 ⟨?_, ops[k], by simp [hlk], fun e he hb => ?_⟩
  ·
   have h1 := hnot k (Nat.le_refl _)
   have hs : k < listed.size := by omega
   simp [hs] at h1 ⊢; exact h1
  ·
   have hd := mem_depsOf (List.getElem?_eq_getElem hlk) he hb
   exact hall _ ((flowOk3_spec hok (List.getElem?_eq_getElem hlk)).1 _ hd)
 refine ⟨fun hr => (by rw [hr] at hkr; cases hkr), fun i hi => ?_⟩
 obtain ⟨h0, o', ho', hdone⟩ := mem_ready.1 hi
 have hlt : i < ops.length := by simpa using (Array.getElem?_eq_some_iff.1 ho').1
 have hli : listed.getD i false = false := by
  have hs : i < listed.size := by omega
  simp [hs] at h0 ⊢; exact h0
 have hdeps : ∀ d ∈ depsOf ops i, listed.getD d false = true := by
  intro d hd
  unfold depsOf at hd
  rw [show ops[i]? = some o' by simpa using ho'] at hd
  obtain ⟨e, he, heq⟩ := List.mem_filterMap.1 hd
  split at heq
  · cases heq; exact hdone e (by simpa using he) (by assumption)
  · cases heq
 have hik : i = k := by
  rcases Nat.lt_trichotomy i k with g | g | g
  · rw [hall i g] at hli; cases hli
  · exact g
  ·
   have := anc_trans3 hok hcl _ i k (barB_spec hb i k (by omega) hlt (by omega)) hdeps
   rw [hnot k (Nat.le_refl _)] at this; cases this
 subst hik
 refine GOK.wp (by simpa using ho) h fun v w'' hk => hk hok f _ (by simpa using hsz) (fun j hj => ?_) (fun j hj => ?_) (by omega)
 ·
  by_cases e : i = j
  ·
   subst e
   have : i < listed.size := by omega
   simp [this]
  · rw [getD_set_ne false e]; exact hall j (by omega)
 · rw [getD_set_ne false (show i ≠ j by omega)]; exact hnot j (by omega)
section
variable {P : Program} {Q : Exit → Act → World → Prop} {ops : List Oper} {N : Nat} {r : Nat → Value} {w : World}
theorem zO {d : Nat} {op : Op} {T : TypeId} {pos : String} {after : Array Edge} (k : Nat) (ho : ops[k]? = some ⟨some d, op, T, pos, after, none⟩) (hb : barB ops (k + 1) = true)
  (h : OK P ⟨some d, op, T, pos, after, none⟩ (ev N r) w fun v w' => Rest P Q ops (k + 1) (Go.Q.fr N (upd r d v)) w') : Rest P Q ops k (Go.Q.fr N r) w :=
 Rest.one ho hb (GOK.free rfl (h.mono fun v w' hk => by rw [fr_put]; exact hk))
theorem r_eff {op : Op} {T : TypeId} {pos : String} {after : Array Edge} (k : Nat) (ho : ops[k]? = some ⟨none, op, T, pos, after, none⟩) (hb : barB ops (k + 1) = true)
  (h : OK P ⟨none, op, T, pos, after, none⟩ (ev N r) w fun _ w' => Rest P Q ops (k + 1) (Go.Q.fr N r) w') : Rest P Q ops k (Go.Q.fr N r) w :=
 Rest.one ho hb (GOK.free rfl (h.mono fun v w' hk => by rw [fr_put_none]; exact hk))
theorem r_on {d : Nat} {op : Op} {T : TypeId} {pos : String} {after : Array Edge} {g : Nat} {b : Bool} (k : Nat) (ho : ops[k]? = some ⟨some d, op, T, pos, after, some (g, b)⟩) (hb : barB ops (k + 1) = true) (t : Nat) (hgt : dstOf ops g = some t) (hv : ev N r (.tmp t) = .bool b)
  (h : OK P ⟨some d, op, T, pos, after, some (g, b)⟩ (ev N r) w fun v w' => Rest P Q ops (k + 1) (Go.Q.fr N (upd r d v)) w') : Rest P Q ops k (Go.Q.fr N r) w :=
 Rest.one ho hb (GOK.on rfl hgt hv (h.mono fun v w' hk => by rw [fr_put]; exact hk))
theorem r_off {d : Nat} {op : Op} {T : TypeId} {pos : String} {after : Array Edge} {g : Nat} {b b' : Bool} (k : Nat) (ho : ops[k]? = some ⟨some d, op, T, pos, after, some (g, b)⟩) (hb : barB ops (k + 1) = true) (t : Nat) (hgt : dstOf ops g = some t) (hv : ev N r (.tmp t) = .bool b') (hne : (b' == b) = false)
  (h : Rest P Q ops (k + 1) (Go.Q.fr N (upd r d undef)) w) : Rest P Q ops k (Go.Q.fr N r) w :=
 Rest.one ho hb (GOK.off rfl hgt hv hne (by rw [fr_put]; exact h))
end
theorem Rest.phase {P : Program} {Q : Exit → Act → World → Prop} {E w : World} {N : Nat} {r : Nat → Value} {ops : List Oper} (F : List (List Hp)) (C : Nat → List Hp) (Tp : Nat → Value → List Hp → (Nat → Value) → Prop)
  (m0 m : Nat) (hml : m ≤ ops.length) (hm0 : m0 ≤ m) (hbar : barB ops m = true) (H : Has E w (F ++ (List.range ops.length).map C))
  (done0 : ∀ i o, i < m0 → ops[i]? = some o → Tp i (slot r o) (C i) (msk ops i (vsOf ops r)))
  (step : ∀ i o, m0 ≤ i → i < m → ops[i]? = some o → ∀ r' w' G hs, Turn3 E ops F C Tp N r i r' w' G hs → GOK P ops o N r' w' fun v w'' => ∃ h', Tp i (match o.dst with | some _ => v | none => undef) h' (msk ops i (vsOf ops r')) ∧ Has E w'' (h' :: G))
  (fin : ∀ (vs : Nat → Value) (hs : Nat → List Hp) w', (∀ i o, i < m → ops[i]? = some o → Tp i (vs i) (hs i) (msk ops i vs)) → (∀ i, m ≤ i → i < ops.length → hs i = C i) → Has E w' (F ++ (List.range ops.length).map hs) → Rest P Q ops m (Go.Q.fr N (puts vs (ops.take m) 0 r)) w') :
  Rest P Q ops m0 (Go.Q.fr N r) w := by
 intro hok fuel0 listed0 hsz0 hall0 hnot0 hf0
 have hsq := barB_spec hbar
 let Inv : Array Bool → Act → World → Prop := fun listed a w => listed.size = ops.length ∧ (∀ i, i < m0 → listed.getD i false = true) ∧ (∀ i, m ≤ i → listed.getD i false = false) ∧ (∀ i, listed.getD i false = true → ∀ d ∈ depsOf ops i, listed.getD d false = true) ∧
  ∃ r' hs, a = Go.Q.fr N r' ∧ Has E w (F ++ (List.range ops.length).map hs) ∧ (∀ i o, ops[i]? = some o → if listed.getD i false = true then o.dst.isSome = true ∧ Tp i (slot r' o) (hs i) (msk ops i (vsOf ops r')) ∨ o.dst = none ∧ Tp i undef (hs i) (msk ops i (vsOf ops r')) else hs i = C i) ∧
  (∀ t, (∀ i o, ops[i]? = some o → o.dst = some t → listed.getD i false = false) → r' t = r t)
 have key : ∀ fuel listed a w, Inv listed a w → (List.range ops.length).countP (fun i => !listed.getD i false) ≤ fuel → wpAny P .any ops.toArray Q fuel listed a w := by
  have ready0 : ∀ listed : Array Bool, listed.size = ops.length → Region.ready .any ops.toArray listed = [] → ∀ i, i < ops.length → listed.getD i false = true := by
   intro listed hsz hr i
   induction i using Nat.strongRecOn with
   | _ i ih =>
    intro hi
    cases hl : listed.getD i false with
    | true => rfl
    | false =>
     exfalso
     obtain ⟨o, ho⟩ : ∃ o, ops[i]? = some o := ⟨_, List.getElem?_eq_getElem hi⟩
     have : i ∈ Region.ready .any ops.toArray listed := by
      refine mem_ready.2 ⟨?_, o, by simpa using ho, fun e he hb => ?_⟩
      ·
       have : i < listed.size := by omega
       simp [this] at hl ⊢; exact hl
      ·
       have hd := mem_depsOf ho he hb
       have hlt := (flowOk3_spec hok ho).1 _ hd
       exact ih _ hlt (by omega)
     rw [hr] at this; cases this
  have fin' : ∀ fuel listed a w, Inv listed a w → (List.range ops.length).countP (fun i => !listed.getD i false) ≤ fuel → (∀ i, i < m → listed.getD i false = true) → wpAny P .any ops.toArray Q fuel listed a w := by
   rintro fuel listed a w ⟨hsz, hpre, hnot, _, r', hs, rfl, hH, hT, hold⟩ hc hall
   let vs : Nat → Value := vsOf ops r'
   have htk : ∀ j o', (ops.take m)[j]? = some o' → ops[j]? = some o' ∧ j < m := fun j o' hj => by
    rw [List.getElem?_take] at hj
    split at hj
    · exact ⟨hj, by assumption⟩
    · cases hj
   have e : Go.Q.fr N r' = Go.Q.fr N (puts vs (ops.take m) 0 r) := by
    refine fr_congr fun t _ => ?_
    by_cases hex : ∃ (i : Nat) (o : Oper), (ops.take m)[i]? = some o ∧ o.dst = some t
    ·
     obtain ⟨i, o, ho, hd⟩ := hex
     rw [puts_new vs (ops.take m) 0 i r o t ho hd (fun j o' hj hne => (flowOk3_spec hok (htk i o ho).1).2 j o' t (htk j o' hj).1 hne hd)]
     simp [vs, vsOf, (htk i o ho).1, slot, hd]
    ·
     rw [puts_old vs (ops.take m) 0 r t (fun o ho hd => by obtain ⟨j, hj⟩ := List.getElem?_of_mem ho; exact hex ⟨j, o, hj, hd⟩)]
     refine hold t (fun i o ho hd => ?_)
     rcases Nat.lt_or_ge i m with g | g
     · exact absurd ⟨i, o, by rw [List.getElem?_take, if_pos g]; exact ho, hd⟩ hex
     · exact hnot i g
   have hw := fin vs hs w (fun i o hi ho => by
    have := hT i o ho
    rw [if_pos (hall i hi)] at this
    have hvs : vs i = slot r' o := by simp only [vs, vsOf, ho]
    rw [hvs]
    rcases this with ⟨_, h⟩ | ⟨hn, h⟩
    · exact h
    · unfold slot; rw [hn]; exact h) (fun i hi hl => by
    have := hT i _ (List.getElem?_eq_getElem hl)
    rw [if_neg (by rw [hnot i hi]; simp)] at this; exact this) hH
   rw [← e] at hw
   have hcount : ops.length - m ≤ (List.range ops.length).countP (fun i => !listed.getD i false) := by
    have : List.range ops.length = List.range m ++ List.range' m (ops.length - m) := by
     have := List.range'_append_1 (s := 0) (m := m) (n := ops.length - m)
     rw [Nat.zero_add] at this
     rw [List.range_eq_range', List.range_eq_range', this]; congr 1; omega
    rw [this, List.countP_append]
    have h2 : (List.range' m (ops.length - m)).countP (fun i => !listed.getD i false) = (List.range' m (ops.length - m)).length := by
     rw [List.countP_eq_length]
     intro i hi
     rw [hnot i (by have := List.mem_range'_1.1 hi; omega)]; rfl
    rw [h2, List.length_range']; omega
   exact hw hok fuel listed hsz hall hnot (by omega)
  intro fuel
  induction fuel with
  | zero =>
   intro listed a w hI hc
   refine fin' 0 listed a w hI hc fun i hi => ?_
   cases hl : listed.getD i false with
   | true => rfl
   | false =>
    have hp : 0 < (List.range ops.length).countP (fun i => !listed.getD i false) := List.countP_pos_iff.2 ⟨i, List.mem_range.2 (by omega), by rw [hl]; rfl⟩
    omega
  | succ fuel ih =>
   intro listed a w hI hc
   by_cases hall : ∀ i, i < m → listed.getD i false = true
   · exact fin' _ listed a w hI hc hall
   refine ⟨fun hr => absurd (fun i hi => ready0 listed hI.1 hr i (by omega)) hall, fun i hi => ?_⟩
   obtain ⟨hsz, hpre, hnot, hcl, r', hs, rfl, hH, hT, hold⟩ := hI
   obtain ⟨h0, o, ho', hdone⟩ := mem_ready.1 hi
   have ho : ops[i]? = some o := by simpa using ho'
   have hlt : i < ops.length := (List.getElem?_eq_some_iff.1 ho).1
   have hli : listed.getD i false = false := by
    have hs : i < listed.size := by omega
    simp [hs] at h0 ⊢; exact h0
   obtain ⟨hdlt, hdist⟩ := flowOk3_spec hok ho
   have hdeps : ∀ d ∈ depsOf ops i, listed.getD d false = true := by
    intro d hd
    unfold depsOf at hd
    rw [ho] at hd
    obtain ⟨e, he, heq⟩ := List.mem_filterMap.1 hd
    split at heq
    · cases heq; exact hdone e (by simpa using he) (by assumption)
    · cases heq
   have him : i < m := by
    rcases Nat.lt_or_ge i m with g | g
    · exact g
    · exact absurd (fun j hj => anc_trans3 hok hcl _ i j (hsq i j g hlt hj) hdeps) hall
   let G : List (List Hp) := F ++ ((List.range i).map hs ++ (List.range' (i + 1) (ops.length - (i + 1))).map hs)
   have hsplit : List.range ops.length = List.range i ++ i :: List.range' (i + 1) (ops.length - (i + 1)) := by
    rw [List.range_eq_range', List.range_eq_range', show i :: List.range' (i + 1) (ops.length - (i + 1)) = List.range' i (ops.length - i) from by
     rw [show ops.length - i = (ops.length - (i + 1)) + 1 by omega, List.range'_succ]]
    have := List.range'_append_1 (s := 0) (m := i) (n := ops.length - i)
    rw [Nat.zero_add] at this
    rw [this]; congr 1; omega
   have mapsplit : ∀ f : Nat → List Hp, (List.range ops.length).map f = (List.range i).map f ++ f i :: (List.range' (i + 1) (ops.length - (i + 1))).map f := by
    intro f; rw [hsplit]; simp
   have hperm : ∀ f : Nat → List Hp, (F ++ (List.range ops.length).map f).Perm (f i :: (F ++ ((List.range i).map f ++ (List.range' (i + 1) (ops.length - (i + 1))).map f))) := by
    intro f
    rw [mapsplit f, ← List.append_assoc, ← List.append_assoc]
    exact List.perm_middle
   have hhi : hs i = C i := by have := hT i o ho; rw [if_neg (by rw [hli]; simp)] at this; exact this
   have inG : ∀ j, j < ops.length → j ≠ i → hs j ∈ G := by
    intro j hj hne
    refine List.mem_append_right _ ?_
    rcases Nat.lt_or_gt_of_ne hne with h | h
    · exact List.mem_append_left _ (List.mem_map.2 ⟨j, List.mem_range.2 h, rfl⟩)
    · exact List.mem_append_right _ (List.mem_map.2 ⟨j, by rw [List.mem_range'_1]; omega, rfl⟩)
   have subG : ∀ s ∈ G, s ⊆ G.flatten := fun s hs' x hx => List.mem_flatten.2 ⟨s, hs', hx⟩
   have ancNe : ∀ j, listed.getD j false = true → j ≠ i := fun j hj e => by rw [e, hli] at hj; cases hj
   have turn : Turn3 E ops F C Tp N r i r' w G hs := by
    refine ⟨?_, fun s hs' => subG s (List.mem_append_left _ hs'), fun j oj hoj hanc => ?_, fun j hanc => ?_, fun t ht => ?_, fun j oj hoj hne => ?_⟩
    · rw [← hhi]; exact hH.perm (hperm hs).symm
    ·
     have hl := anc_trans3 hok hcl _ i j hanc hdeps
     refine ⟨?_, subG _ (inG j (List.getElem?_eq_some_iff.1 hoj).1 (ancNe j hl))⟩
     have := hT j oj hoj
     rw [if_pos hl] at this
     rcases this with ⟨_, h⟩ | ⟨hn, h⟩
     · exact h
     · unfold slot; rw [hn]; exact h
    ·
     cases hj : ops[j]? with
     | none =>
      exfalso
      unfold anc at hanc
      split at hanc
      · cases hanc
      · simp [depsOf, hj] at hanc
     | some oj =>
      have hnl : listed.getD j false = false := by
       cases hl : listed.getD j false with
       | false => rfl
       | true =>
        have := anc_trans3 hok hcl _ j i hanc (hcl j hl)
        rw [hli] at this; cases this
      have hjl := (List.getElem?_eq_some_iff.1 hj).1
      have hne : j ≠ i := by
       rintro rfl
       have := anc_trans3 hok hcl _ j j hanc hdeps
       rw [hli] at this; cases this
      have := hT j oj hj
      rw [if_neg (by rw [hnl]; simp)] at this
      rw [← this]; exact subG _ (inG j hjl hne)
    ·
     refine hold t (fun j oj hoj hd => ?_)
     rcases ht j oj hoj hd with rfl | hanc
     · exact hli
     ·
      cases hl : listed.getD j false with
      | false => rfl
      | true =>
       have := anc_trans3 hok hcl _ j i hanc (hcl j hl)
       rw [hli] at this; cases this
    ·
     have hG := subG _ (inG j (List.getElem?_eq_some_iff.1 hoj).1 hne)
     have := hT j oj hoj
     cases hl : listed.getD j false with
     | true =>
      rw [if_pos hl] at this
      rcases this with ⟨_, h⟩ | ⟨_, h⟩
      · exact .inr ⟨⟨_, _, h⟩, hG⟩
      · exact .inr ⟨⟨_, _, h⟩, hG⟩
     | false =>
      rw [if_neg (by rw [hl]; simp)] at this
      rw [← this]; exact .inl hG
   have hi0 : m0 ≤ i := by
    rcases Nat.lt_or_ge i m0 with g | g
    · rw [hpre i g] at hli; cases hli
    · exact g
   have hstep := step i o hi0 him ho r' w G hs turn
   have hnext : ∀ (v : Value) (w'' : World), (∃ h', Tp i (match o.dst with | some _ => v | none => undef) h' (msk ops i (vsOf ops r')) ∧ Has E w'' (h' :: G)) →
     wpAny P .any ops.toArray Q fuel (listed.setIfInBounds i true) ((Go.Q.fr N r').put o.dst v) w'' := ?_
   · exact GOK.wp ho' hstep hnext
   rintro v w'' ⟨h', hTi, hH'⟩
   refine ih _ _ _ ⟨by simpa using hsz, fun j hj => by rw [getD_set_ne false (show i ≠ j by omega)]; exact hpre j hj, fun j hj => by rw [getD_set_ne false (show i ≠ j by omega)]; exact hnot j hj, ?_, ?_⟩ ?_
   ·
    intro j hj d hd
    by_cases hji : i = j
    · subst hji; exact getD_set_true (hdeps d hd)
    ·
     rw [getD_set_ne false hji] at hj
     exact getD_set_true (hcl j hj d hd)
   ·
    let hs' : Nat → List Hp := fun j => if j = i then h' else hs j
    have hsG : F ++ ((List.range i).map hs' ++ (List.range' (i + 1) (ops.length - (i + 1))).map hs') = G := by
     have e1 : (List.range i).map hs' = (List.range i).map hs := List.map_congr_left fun j hj => by
      have := List.mem_range.1 hj; simp only [hs']; rw [if_neg (by omega)]
     have e2 : (List.range' (i + 1) (ops.length - (i + 1))).map hs' = (List.range' (i + 1) (ops.length - (i + 1))).map hs := List.map_congr_left fun j hj => by
      have := List.mem_range'_1.1 hj; simp only [hs']; rw [if_neg (by omega)]
     rw [e1, e2]
    have hH2 : Has E w'' (F ++ (List.range ops.length).map hs') := by
     refine hH'.perm ((hperm hs').trans ?_)
     rw [hsG]
     simp [hs']
    have hset : ∀ j, j ≠ i → (listed.setIfInBounds i true).getD j false = listed.getD j false := fun j hj => getD_set_ne false (Ne.symm hj)
    have hseti : (listed.setIfInBounds i true).getD i false = true := by
     have : i < listed.size := by omega
     simp [this]
    cases hd : o.dst with
    | none =>
     refine ⟨r', hs', by rw [fr_put_none], hH2, fun j oj hoj => ?_, fun t ht => hold t fun j oj hoj hdj => ?_⟩
     ·
      by_cases hji : j = i
      ·
       subst hji
       rw [ho] at hoj; cases hoj
       rw [if_pos hseti]
       rw [hd] at hTi
       exact .inr ⟨hd, by simpa [hs'] using hTi⟩
      ·
       rw [hset j hji]
       have := hT j oj hoj
       simpa [hs', hji] using this
     ·
      by_cases hji : j = i
      · subst hji; exact hli
      · have := ht j oj hoj hdj; rwa [hset j hji] at this
    | some d =>
     refine ⟨upd r' d v, hs', by rw [fr_put], hH2, fun j oj hoj => ?_, fun t ht => ?_⟩
     ·
      by_cases hji : j = i
      ·
       subst hji
       rw [ho] at hoj; cases hoj
       rw [if_pos hseti]
       refine .inl ⟨by rw [hd]; rfl, ?_⟩
       rw [hd] at hTi
       rw [msk_upd3 hok ho hd (fun k hk => ancNe k (anc_trans3 hok hcl _ j k hk hdeps))]
       simp only [slot, hd, upd_same, hs', if_true]; exact hTi
      ·
       rw [hset j hji]
       have := hT j oj hoj
       have hne : oj.dst ≠ some d := hdist j oj d hoj hji hd
       have hsl : slot (upd r' d v) oj = slot r' oj := by
        unfold slot
        cases hdj : oj.dst with
        | none => rfl
        | some t => exact upd_ne _ _ (fun e => hne (by rw [hdj, e]))
       cases hlj : listed.getD j false with
       | true =>
        rw [msk_upd3 hok ho hd (fun k hk => ancNe k (anc_trans3 hok hcl _ j k hk (hcl j hlj)))]
        simpa [hs', hji, hsl, hlj] using this
       | false => simpa [hs', hji, hlj] using this
     ·
      have hne : t ≠ d := by
       rintro rfl
       have := ht i o ho hd
       rw [hseti] at this; cases this
      rw [upd_ne _ _ hne]
      refine hold t fun j oj hoj hdj => ?_
      by_cases hji : j = i
      · subst hji; exact hli
      · have := ht j oj hoj hdj; rwa [hset j hji] at this
   ·
    have : (List.range ops.length).countP (fun j => !(listed.setIfInBounds i true).getD j false) < (List.range ops.length).countP (fun j => !listed.getD j false) := by
     have hset : ∀ j, j ≠ i → (listed.setIfInBounds i true).getD j false = listed.getD j false := fun j hj => getD_set_ne false (Ne.symm hj)
     have hseti : (listed.setIfInBounds i true).getD i false = true := by
      have : i < listed.size := by omega
      simp [this]
     rw [hsplit, List.countP_append, List.countP_cons, List.countP_append, List.countP_cons, hseti, hli]
     have e1 : (List.range i).countP (fun j => !(listed.setIfInBounds i true).getD j false) = (List.range i).countP (fun j => !listed.getD j false) :=
      List.countP_congr fun j hj => by have := List.mem_range.1 hj; rw [hset j (by omega)]
     have e2 : (List.range' (i + 1) (ops.length - (i + 1))).countP (fun j => !(listed.setIfInBounds i true).getD j false) = (List.range' (i + 1) (ops.length - (i + 1))).countP (fun j => !listed.getD j false) :=
      List.countP_congr fun j hj => by have := List.mem_range'_1.1 hj; rw [hset j (by omega)]
     rw [e1, e2]; simp
    omega
 have h0 : Inv listed0 (Go.Q.fr N r) w := by
  refine ⟨hsz0, hall0, fun i hi => hnot0 i (by omega), fun i hi d hd => ?_, r, C, rfl, H, fun i o ho => ?_, fun _ _ => rfl⟩
  ·
   have hi0 : i < m0 := by
    rcases Nat.lt_or_ge i m0 with g | g
    · exact g
    · rw [hnot0 i g] at hi; cases hi
   have := (flowOk3_spec hok (List.getElem?_eq_getElem (show i < ops.length by omega))).1 d hd
   exact hall0 d (by omega)
  ·
   rcases Nat.lt_or_ge i m0 with g | g
   ·
    rw [if_pos (hall0 i g)]
    have hd := done0 i o g ho
    cases hdd : o.dst with
    | none => exact .inr ⟨rfl, by unfold slot at hd; rw [hdd] at hd; exact hd⟩
    | some t => exact .inl ⟨rfl, hd⟩
   · rw [if_neg (by rw [hnot0 i g]; simp)]
 refine key _ _ _ _ h0 ?_
 have e0 : List.range ops.length = List.range m0 ++ List.range' m0 (ops.length - m0) := by
  have := List.range'_append_1 (s := 0) (m := m0) (n := ops.length - m0)
  rw [Nat.zero_add] at this
  rw [List.range_eq_range', List.range_eq_range', this]; congr 1; omega
 rw [e0, List.countP_append]
 have e1 : (List.range m0).countP (fun i => !listed0.getD i false) = 0 := by
  rw [List.countP_eq_zero]
  intro i hi
  rw [hall0 i (List.mem_range.1 hi)]; simp
 have e2 : (List.range' m0 (ops.length - m0)).countP (fun i => !listed0.getD i false) ≤ ops.length - m0 := Nat.le_trans List.countP_le_length (by rw [List.length_range']; exact Nat.le_refl _)
 omega
end Go.Q
