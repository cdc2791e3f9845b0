/-
  Parts of a walk: what functions of the program compute, each told by a theorem (QTw, QTw2, QTw3, QTw4, QFrame3, QFrame4, QZ, QY, QYS, QDevA, QAreaA, QAreaP, QCut, QOwnL, QStm, QStmD, QsBase, QsSh1, QF2, QF3, QF5, QF6, QF7, Qsn1, QDir, Qsm4, Qsm5, Qsm8).
-/
import Derived.Test.YtmfppdpfljpphaaGreatDoorB1
import Derived.Below
import Derived.ChangeArms
import Derived.WideShapes
import Derived.DataElems
import Derived.SizedLaws
import Derived.Test.YtmfppdpfljpphaaGreatDoorProg
import Derived.Shelf.Strings.OnBuilder
import Derived.Shelf.Strings.Repeat
import Derived.Shelf.Bits.Mul64
set_option linter.unusedVariables false
set_option linter.unusedSimpArgs false
set_option linter.unnecessarySimpa false
namespace Go.Q
def sgt (s : Bs) (i : Nat) : Bs := (s.take ((i + 1) * 64)).drop (i * 64)
def setT (x : Int) (s : Bs) : Grp := [(x, sgt s 0), (x + 1, sgt s 1), (x + 2, sgt s 2), (x + 3, sgt s 3)]
def mrkG (l : List Int) : Grp := [(0, putS 1 l)]
def plc (k : Int) : Int := 5 + k * 4
def pgB (la : List Bs) (x : Int) : Bs := sec la x ++ (sec la (x + 1) ++ (sec la (x + 2) ++ sec la (x + 3)))
def stG (no : Int) (s : Bs) : List Grp := [setT 1 s, mrkG [no + 1], setT (plc no) s, mrkG []]
def mendG (no : Int) (s : Bs) : List Grp := [setT (plc no) s, mrkG []]
def noteS (no : Int) : Bs := fillS (putS 1 [no + 1])
theorem sgt_len {s : Bs} (h : s.length = 256) {i : Nat} (hi : i < 4) : (sgt s i).length = 64 := by unfold sgt; rw [List.length_drop, List.length_take]; omega
theorem sgt_all {s : Bs} (h : s.length = 256) : sgt s 0 ++ (sgt s 1 ++ (sgt s 2 ++ sgt s 3)) = s := by
 have e : ∀ a b : Nat, a ≤ b → b ≤ 256 → (s.take b).drop a ++ s.drop b = s.drop a := fun a b h1 h2 => by
  have t := congrArg (List.drop a) (List.take_append_drop b s)
  rw [List.drop_append_of_le_length (by rw [List.length_take]; omega)] at t
  exact t
 have e0 : sgt s 3 = s.drop 192 := by unfold sgt; rw [List.take_of_length_le (by omega)]
 rw [e0]
 show (s.take 64).drop 0 ++ ((s.take 128).drop 64 ++ ((s.take 192).drop 128 ++ s.drop 192)) = s
 rw [e 128 192 (by decide) (by decide), e 64 128 (by decide) (by decide), e 0 64 (by decide) (by decide), List.drop_zero]
theorem put_nil : putS 1 ([] : List Int) = [] := by rw [putS_yes (by decide) (by decide) (by simp)]; rfl
theorem put_len {no : Int} (h : 0 ≤ no ∧ no < 64) : (putS 1 [no + 1]).length = 1 := by rw [put1 (by omega), zD]
theorem gok_set {x : Int} {s : Bs} {k : Nat} (hs : s.length = 256) (h0 : 0 ≤ x) (hk : x + 4 ≤ k) : GOk (setT x s) k := by
 intro q hq
 simp only [setT, List.mem_cons, List.not_mem_nil, or_false] at hq
 rcases hq with rfl | rfl | rfl | rfl
 · exact ⟨⟨h0, by show x < _; omega⟩, Nat.le_of_eq (sgt_len hs (by decide))⟩
 · exact ⟨⟨by show 0 ≤ x + 1; omega, by show x + 1 < _; omega⟩, Nat.le_of_eq (sgt_len hs (by decide))⟩
 · exact ⟨⟨by show 0 ≤ x + 2; omega, by show x + 2 < _; omega⟩, Nat.le_of_eq (sgt_len hs (by decide))⟩
 · exact ⟨⟨by show 0 ≤ x + 3; omega, by show x + 3 < _; omega⟩, Nat.le_of_eq (sgt_len hs (by decide))⟩
theorem gok_nil {k : Nat} (hk : 1 ≤ k) : GOk (mrkG []) k := by
 intro q hq
 rw [List.mem_singleton.1 hq]
 exact ⟨⟨by show (0 : Int) ≤ 0; decide, by show (0 : Int) < _; omega⟩, by show (putS 1 []).length ≤ 64; rw [put_nil]; decide⟩
theorem gok_mrk {no : Int} (h : 0 ≤ no ∧ no < 64) {k : Nat} (hk : 1 ≤ k) : GOk (mrkG [no + 1]) k := by
 intro q hq
 rw [List.mem_singleton.1 hq]
 exact ⟨⟨by show (0 : Int) ≤ 0; decide, by show (0 : Int) < _; omega⟩, by show (putS 1 [no + 1]).length ≤ 64; rw [put_len h]; decide⟩
/-- four sectors set -/
theorem sec_appl {la : List Bs} {x : Int} {s : Bs} (hs : s.length = 256) (h0 : 0 ≤ x) (hk : x + 4 ≤ la.length) {m : Int} (hm : 0 ≤ m) :
  sec (appl (setT x s) la) m = if m = x then sgt s 0 else if m = x + 1 then sgt s 1 else if m = x + 2 then sgt s 2 else if m = x + 3 then sgt s 3 else sec la m := by
 have f : ∀ i, i < 4 → fillS (sgt s i) = sgt s i := fun i hi => fill_full (sgt_len hs hi)
 have e : appl (setT x s) la = (((la.set x.toNat (sgt s 0)).set (x + 1).toNat (sgt s 1)).set (x + 2).toNat (sgt s 2)).set (x + 3).toNat (sgt s 3) := by
  show (((la.set x.toNat (fillS (sgt s 0))).set (x + 1).toNat (fillS (sgt s 1))).set (x + 2).toNat (fillS (sgt s 2))).set (x + 3).toNat (fillS (sgt s 3)) = _
  rw [f 0 (by decide), f 1 (by decide), f 2 (by decide), f 3 (by decide)]
 rw [e, sec_set ⟨by omega, by simp only [List.length_set]; omega⟩ hm, sec_set ⟨by omega, by simp only [List.length_set]; omega⟩ hm, sec_set ⟨by omega, by simp only [List.length_set]; omega⟩ hm, sec_set ⟨by omega, by omega⟩ hm]
 by_cases h1 : m = x
 · rw [if_neg (by omega), if_neg (by omega), if_neg (by omega), if_pos h1, if_pos h1]
 ·
  by_cases h2 : m = x + 1
  · rw [if_neg (by omega), if_neg (by omega), if_pos h2, if_neg h1, if_pos h2]
  ·
   by_cases h3 : m = x + 2
   · rw [if_neg (by omega), if_pos h3, if_neg h1, if_neg h2, if_pos h3]
   ·
    by_cases h4 : m = x + 3
    · rw [if_pos h4, if_neg h1, if_neg h2, if_neg h3, if_pos h4]
    · rw [if_neg h4, if_neg h3, if_neg h2, if_neg h1, if_neg h1, if_neg h2, if_neg h3, if_neg h4]
theorem sec_out {la : List Bs} {x : Int} {s : Bs} (hs : s.length = 256) (h0 : 0 ≤ x) (hk : x + 4 ≤ la.length) {m : Int} (hm : 0 ≤ m) (ho : m < x ∨ x + 4 ≤ m) : sec (appl (setT x s) la) m = sec la m := by
 rw [sec_appl hs h0 hk hm, if_neg (by omega), if_neg (by omega), if_neg (by omega), if_neg (by omega)]
theorem pg_set {la : List Bs} {x : Int} {s : Bs} (hs : s.length = 256) (h0 : 0 ≤ x) (hk : x + 4 ≤ la.length) : pgB (appl (setT x s) la) x = s := by
 unfold pgB
 rw [sec_appl hs h0 hk h0, if_pos rfl, sec_appl hs h0 hk (by omega), if_neg (by omega), if_pos rfl, sec_appl hs h0 hk (by omega), if_neg (by omega), if_neg (by omega), if_pos rfl, sec_appl hs h0 hk (by omega), if_neg (by omega), if_neg (by omega), if_neg (by omega), if_pos rfl]
 exact sgt_all hs
theorem pg_out {la : List Bs} {x y : Int} {s : Bs} (hs : s.length = 256) (h0 : 0 ≤ x) (hk : x + 4 ≤ la.length) (hy : 0 ≤ y) (ho : y + 4 ≤ x ∨ x + 4 ≤ y) : pgB (appl (setT x s) la) y = pgB la y := by
 unfold pgB
 rw [sec_out hs h0 hk hy (by omega), sec_out hs h0 hk (by omega) (by omega), sec_out hs h0 hk (by omega) (by omega), sec_out hs h0 hk (by omega) (by omega)]
theorem pg_same {la lb : List Bs} {y : Int} (h : ∀ j : Int, y ≤ j → j < y + 4 → sec lb j = sec la j) : pgB lb y = pgB la y := by
 unfold pgB
 rw [h y (by omega) (by omega), h (y + 1) (by omega) (by omega), h (y + 2) (by omega) (by omega), h (y + 3) (by omega) (by omega)]
/-- the note set -/
theorem sec_mrk {la : List Bs} {l : List Int} (hk : 1 ≤ la.length) {m : Int} (hm : 0 ≤ m) : sec (appl (mrkG l) la) m = if m = 0 then fillS (putS 1 l) else sec la m := by
 show sec (la.set (0 : Int).toNat _) m = _
 exact sec_set ⟨by decide, by omega⟩ hm
theorem pg_mrk {la : List Bs} {l : List Int} (hk : 1 ≤ la.length) {y : Int} (hy : 1 ≤ y) : pgB (appl (mrkG l) la) y = pgB la y := pg_same fun j h1 _ => by rw [sec_mrk hk (by omega), if_neg (by omega)]
/-- what a mix leaves as it was -/
theorem mix_out {la lb : List Bs} {g : Grp} (h : Mix la g lb) {m : Int} (hm : 0 ≤ m) (ho : ∀ q ∈ g, q.1 ≠ m) : sec lb m = sec la m := by
 have e : ((m.toNat : Nat) : Int) = m := by omega
 rcases h.2 m.toNat with q | ⟨s, q1, _⟩
 · rw [e] at q; exact q
 · rw [e] at q1; exact absurd rfl (ho _ q1)
theorem mix_set {la lb : List Bs} {x y : Int} {s : Bs} (h : Mix la (setT x s) lb) (hy : 0 ≤ y) (ho : y + 4 ≤ x ∨ x + 4 ≤ y) : pgB lb y = pgB la y := pg_same fun j h1 h2 => mix_out h (by omega) fun q hq => by
 simp only [setT, List.mem_cons, List.not_mem_nil, or_false] at hq
 rcases hq with rfl | rfl | rfl | rfl <;> (show _ ≠ j; omega)
theorem mix_set0 {la lb : List Bs} {x : Int} {s : Bs} (h : Mix la (setT x s) lb) (h1 : 1 ≤ x) : sec lb 0 = sec la 0 := mix_out h (by decide) fun q hq => by
 simp only [setT, List.mem_cons, List.not_mem_nil, or_false] at hq
 rcases hq with rfl | rfl | rfl | rfl <;> (show _ ≠ (0 : Int); omega)
theorem mix_mrk {la lb : List Bs} {l : List Int} (h : Mix la (mrkG l) lb) {y : Int} (hy : 1 ≤ y) : pgB lb y = pgB la y := pg_same fun j h1 h2 => mix_out h (by omega) fun q hq => by rw [List.mem_singleton.1 hq]; show (0 : Int) ≠ j; omega
theorem mix_mrk0 {la lb : List Bs} {l : List Int} (h : Mix la (mrkG l) lb) : sec lb 0 = sec la 0 ∨ sec lb 0 = fillS (putS 1 l) := by
 rcases h.2 0 with q | ⟨s, q1, q2⟩
 · exact .inl q
 ·
  refine .inr ?_
  have e := List.mem_singleton.1 q1
  rw [← (Prod.mk.inj e).2]; exact q2
/-- pages as they lie: the note is blank -/
structure Tw (la : List Bs) (n : Nat) (B : Nat → Bs) : Prop where
 len : 5 + 4 * n ≤ la.length
 note : sec la 0 = blankS
 pg : ∀ k, k < n → pgB la (plc k) = B k
def updB (B : Nat → Bs) (no : Nat) (s : Bs) (k : Nat) : Bs := if k = no then s else B k
/-- a Store under way, or a mending: nothing of it is there, or all, or the note tells of the copy -/
def Pend (la : List Bs) (n : Nat) (B : Nat → Bs) (no : Nat) (s : Bs) : Prop :=
 5 + 4 * n ≤ la.length ∧ ((sec la 0 = blankS ∧ ((∀ k, k < n → pgB la (plc k) = B k) ∨ (∀ k, k < n → pgB la (plc k) = updB B no s k))) ∨ (sec la 0 = noteS no ∧ pgB la 1 = s ∧ ∀ k, k < n → k ≠ no → pgB la (plc k) = B k))
section store
variable {la : List Bs} {n : Nat} {B : Nat → Bs} {no : Nat} {s : Bs}
theorem st_ok (h : Tw la n B) (hs : s.length = 256) (hn : no < n) : Tw (appls (stG no s) la) n (updB B no s) := by
 have hl := h.len
 have l1 : (appl (setT 1 s) la).length = la.length := appl_len _ _
 have l2 : (appl (mrkG [(no : Int) + 1]) (appl (setT 1 s) la)).length = la.length := by rw [appl_len, l1]
 have l3 : (appl (setT (plc no) s) (appl (mrkG [(no : Int) + 1]) (appl (setT 1 s) la))).length = la.length := by rw [appl_len, l2]
 have e : appls (stG no s) la = appl (mrkG []) (appl (setT (plc no) s) (appl (mrkG [(no : Int) + 1]) (appl (setT 1 s) la))) := rfl
 rw [e]
 refine ⟨by rw [appl_len, l3]; exact hl, ?_, fun k hk => ?_⟩
 · rw [sec_mrk (by omega) (by decide), if_pos rfl, put_nil]; rfl
 ·
  rw [pg_mrk (by omega) (by unfold plc; omega)]
  unfold updB
  by_cases g : k = no
  · subst g; rw [if_pos rfl]; exact pg_set hs (by unfold plc; omega) (by rw [l2]; unfold plc; omega)
  ·
   rw [if_neg g, pg_out hs (by unfold plc; omega) (by rw [l2]; unfold plc; omega) (by unfold plc; omega) (by unfold plc; omega), pg_mrk (by omega) (by unfold plc; omega), pg_out hs (by decide) (by omega) (by unfold plc; omega) (by unfold plc; omega)]
   exact h.pg k hk
theorem mend_okT (hl : 5 + 4 * n ≤ la.length) (hb : ∀ k, k < n → k ≠ no → pgB la (plc k) = B k) (hs : s.length = 256) (hn : no < n) : Tw (appls (mendG no s) la) n (updB B no s) := by
 have l1 : (appl (setT (plc no) s) la).length = la.length := appl_len _ _
 have e : appls (mendG no s) la = appl (mrkG []) (appl (setT (plc no) s) la) := rfl
 rw [e]
 refine ⟨by rw [appl_len, l1]; exact hl, ?_, fun k hk => ?_⟩
 · rw [sec_mrk (by omega) (by decide), if_pos rfl, put_nil]; rfl
 ·
  rw [pg_mrk (by omega) (by unfold plc; omega)]
  unfold updB
  by_cases g : k = no
  · subst g; rw [if_pos rfl]; exact pg_set hs (by unfold plc; omega) (by unfold plc; omega)
  ·
   rw [if_neg g, pg_out hs (by unfold plc; omega) (by unfold plc; omega) (by unfold plc; omega) (by unfold plc; omega)]
   exact hb k hk g
theorem mend_mix {lb : List Bs} {pre post : List Grp} {g : Grp} (hl : 5 + 4 * n ≤ la.length) (h0 : sec la 0 = noteS no) (hc : pgB la 1 = s) (hb : ∀ k, k < n → k ≠ no → pgB la (plc k) = B k) (hs : s.length = 256) (hn : no < n)
  (hg : mendG no s = pre ++ g :: post) (hm : Mix (appls pre la) g lb) : Pend lb n B no s := by
 have ll : 5 + 4 * n ≤ lb.length := by rw [hm.1, appls_len]; exact hl
 unfold mendG at hg
 cases pre with
 | nil =>
  obtain ⟨rfl, rfl⟩ := List.cons.inj hg
  refine ⟨ll, .inr ⟨?_, ?_, fun k hk g => ?_⟩⟩
  · rw [mix_set0 hm (by unfold plc; omega)]; exact h0
  · rw [mix_set hm (by decide) (by unfold plc; omega)]; exact hc
  · rw [mix_set hm (by unfold plc; omega) (by unfold plc; omega)]; exact hb k hk g
 | cons g1 pre =>
  obtain ⟨rfl, hg1⟩ := List.cons.inj hg
  cases pre with
  | nil =>
   obtain ⟨rfl, rfl⟩ := List.cons.inj hg1
   have hm : Mix (appl (setT (plc no) s) la) (mrkG []) lb := hm
   have l1 : (appl (setT (plc no) s) la).length = la.length := appl_len _ _
   have hp : ∀ k, k < n → pgB lb (plc k) = updB B no s k := fun k hk => by
    rw [mix_mrk hm (by unfold plc; omega)]
    unfold updB
    by_cases g : k = no
    · subst g; rw [if_pos rfl]; exact pg_set hs (by unfold plc; omega) (by unfold plc; omega)
    · rw [if_neg g, pg_out hs (by unfold plc; omega) (by unfold plc; omega) (by unfold plc; omega) (by unfold plc; omega)]; exact hb k hk g
   refine ⟨ll, ?_⟩
   rcases mix_mrk0 hm with q | q
   ·
    refine .inr ⟨?_, ?_, fun k hk g => ?_⟩
    · rw [q, sec_out hs (by unfold plc; omega) (by unfold plc; omega) (by decide) (by unfold plc; omega)]; exact h0
    · rw [mix_mrk hm (by decide), pg_out hs (by unfold plc; omega) (by unfold plc; omega) (by decide) (by unfold plc; omega)]; exact hc
    · rw [hp k hk]; unfold updB; rw [if_neg g]
   · exact .inl ⟨by rw [q, put_nil]; rfl, .inr hp⟩
  | cons g2 pre => 
   obtain ⟨_, hg2⟩ := List.cons.inj hg1
   cases pre <;> cases hg2
theorem st_mix {lb : List Bs} {pre post : List Grp} {g : Grp} (h : Tw la n B) (hs : s.length = 256) (hn : no < n) (hg : stG no s = pre ++ g :: post) (hm : Mix (appls pre la) g lb) : Pend lb n B no s := by
 have hl := h.len
 have ll : 5 + 4 * n ≤ lb.length := by rw [hm.1, appls_len]; exact hl
 have l1 : (appl (setT 1 s) la).length = la.length := appl_len _ _
 have hb1 : ∀ k, k < n → pgB (appl (setT 1 s) la) (plc k) = B k := fun k hk => by rw [pg_out hs (by decide) (by omega) (by unfold plc; omega) (by unfold plc; omega)]; exact h.pg k hk
 have hn1 : sec (appl (setT 1 s) la) 0 = blankS := by rw [sec_out hs (by decide) (by omega) (by decide) (by omega)]; exact h.note
 have hc1 : pgB (appl (setT 1 s) la) 1 = s := pg_set hs (by decide) (by omega)
 unfold stG at hg
 cases pre with
 | nil =>
  obtain ⟨rfl, rfl⟩ := List.cons.inj hg
  refine ⟨ll, .inl ⟨?_, .inl fun k hk => ?_⟩⟩
  · rw [mix_set0 hm (by decide)]; exact h.note
  · rw [mix_set hm (by unfold plc; omega) (by unfold plc; omega)]; exact h.pg k hk
 | cons g1 pre =>
  obtain ⟨rfl, hg1⟩ := List.cons.inj hg
  cases pre with
  | nil =>
   obtain ⟨rfl, rfl⟩ := List.cons.inj hg1
   have hm : Mix (appl (setT 1 s) la) (mrkG [(no : Int) + 1]) lb := hm
   refine ⟨ll, ?_⟩
   rcases mix_mrk0 hm with q | q
   · exact .inl ⟨by rw [q]; exact hn1, .inl fun k hk => by rw [mix_mrk hm (by unfold plc; omega)]; exact hb1 k hk⟩
   · exact .inr ⟨q, by rw [mix_mrk hm (by decide)]; exact hc1, fun k hk _ => by rw [mix_mrk hm (by unfold plc; omega)]; exact hb1 k hk⟩
  | cons g2 pre =>
   obtain ⟨rfl, hg2⟩ := List.cons.inj hg1
   refine mend_mix (la := appl (mrkG [(no : Int) + 1]) (appl (setT 1 s) la)) (by rw [appl_len, l1]; exact hl) ?_ ?_ (fun k hk _ => ?_) hs hn hg2 hm
   · rw [sec_mrk (by omega) (by decide), if_pos rfl]; rfl
   · rw [pg_mrk (by omega) (by decide)]; exact hc1
   · rw [pg_mrk (by omega) (by unfold plc; omega)]; exact hb1 k hk
end store
end Go.Q
namespace Go.Q
theorem few_wrs : ∀ (g : Grp) (d : Dv) {k : Nat}, Few d.p k → Few (wrs d g).2.p (k + g.length)
 | [], _, _, h => h
 | (n, s) :: t, d, k, h => by
  have e : wrs d ((n, s) :: t) = if d.wrE n s = 0 then wrs (d.wr n s) t else (d.wrE n s, d.wr n s) := rfl
  have h1 : Few (d.wr n s).p (k + 1) := h.use
  rw [e]
  split
  · exact (few_wrs t _ h1).mono (by rw [List.length_cons]; omega)
  · exact h1.mono (by rw [List.length_cons]; omega)
theorem wrs_la : ∀ (g : Grp) (d : Dv), (wrs d g).2.la = d.la
 | [], _ => rfl
 | (n, s) :: t, d => by
  have e : wrs d ((n, s) :: t) = if d.wrE n s = 0 then wrs (d.wr n s) t else (d.wrE n s, d.wr n s) := rfl
  rw [e]
  split
  · exact wrs_la t _
  · rfl
theorem wrsy_len {g : Grp} {d : Dv} : (wrsy d g).2.la.length = d.la.length := by
 unfold wrsy
 split
 ·
  show (syncA _ _ _).length = _
  unfold syncA
  split
  · rw [settle_len, wrs_la]
  · rw [wrs_la]
 · rw [wrs_la]
theorem runs_len : ∀ (gs : List Grp) (d : Dv), (runs d gs).2.la.length = d.la.length
 | [], _ => rfl
 | g :: t, d => by
  have e : runs d (g :: t) = if (wrsy d g).1 = 0 then runs (wrsy d g).2 t else wrsy d g := rfl
  rw [e]
  split
  · rw [runs_len t, wrsy_len]
  · exact wrsy_len
def zer (n : Nat) : Bs := List.replicate n 0
/-- the note, read -/
def notedS (s : Bs) (n : Int) : Int × Int :=
 if s = zer 64 then (-1, 0) else if n < ((s[0]?).getD 0).toNat ∨ ((s[0]?).getD 0).toNat = 0 ∨ s.drop 1 ≠ zer 63 then (0, 9) else ((((s[0]?).getD 0).toNat : Int) - 1, 0)
/-- the page of bytes at a place -/
def pgOf (b : Bs) (k : Int) : (Int × Int × List Cel) × Int :=
 if b = zer 256 then ((k, 0, []), 0) else if (readP b).1 = true ∧ (readP b).2.1 = k then ((readP b).2, 0) else ((0, 0, []), 9)
/-- the mending of a device that keeps nothing loose -/
def mendR (d : Dv) (n : Int) : Int × Dv :=
 if d.p.off = true then (6, d) else if (notedS (sec d.la 0) n).2 ≠ 0 then (9, d) else if (notedS (sec d.la 0) n).1 < 0 then (0, d)
 else if (readP (pgB d.la 1)).1 = true ∧ (readP (pgB d.la 1)).2.1 = (notedS (sec d.la 0) n).1 then runs d (mendG (notedS (sec d.la 0) n).1 (pgB d.la 1)) else (9, d)
abbrev Pg := Int × Int × Value × List Cel
def pgC (a : Pg) : List Value := [iV a.1, iV a.2.1, a.2.2.1]
def PgIn (R : List Hp) (a : Pg) : Prop := Sl R 2 a.2.2.1 a.2.2.2.length (a.2.2.2.flatMap ceC)
theorem PgIn.mono {R R' : List Hp} {a : Pg} (h : PgIn R a) (hs : R ⊆ R') : PgIn R' a := Sl.mono h hs
def lpg (a : Pg) : Bs := laidP a.1 a.2.1 a.2.2.2
/-- one page stored, and several -/
def st1 (d : Dv) (n : Int) (a : Pg) : Int × Dv := if lpg a = [] ∨ n ≤ a.1 then (1, d) else runs d (stG a.1 (lpg a))
theorem Dv.eta0 {d : Dv} (h : d.lo = []) : d = ⟨d.p, d.la, []⟩ := by obtain ⟨a, b, c⟩ := d; cases h; rfl
/-- the power goes, and comes; it is armed -/
def Dv.cr (d : Dv) (keep : List Int) : Dv := ⟨backS d.p, settleS d.lo d.la keep, []⟩
/-- a row of pages, as an element of a row of such -/
abbrev Gr := Value × List Pg
def GrIn (R : List Hp) (g : Gr) : Prop := Sl R 3 g.1 g.2.length (g.2.flatMap pgC) ∧ ∀ a ∈ g.2, PgIn R a
theorem GrIn.mono {R R' : List Hp} {g : Gr} (h : GrIn R g) (hs : R ⊆ R') : GrIn R' g := ⟨Sl.mono h.1 hs, fun a ha => (h.2 a ha).mono hs⟩
end Go.Q
namespace Go.Q
def pgT (a : Pg) : Int × Int × List Cel := (a.1, a.2.1, a.2.2.2)
/-- pages that are at hand tell what lies on the device -/
def Told (now : List Pg) (B : Nat → Bs) (n : Nat) : Prop := now.length = n ∧ ∀ k, k < n → ∃ a, now[k]? = some a ∧ pgOf (B k) k = (pgT a, 0)
set_option maxRecDepth 1000000 in
theorem read_zer : (readP (zer 256)).1 = false := by decide +kernel
theorem lpg_zer {no gsn : Int} {l : List Cel} (h : pageR no gsn l = true) : laidP no gsn l ≠ zer 256 := fun e => by
 have h1 := readP_laid h
 rw [e] at h1
 have h2 := read_zer
 rw [h1] at h2
 cases h2
theorem pgOf_laid {no gsn : Int} {l : List Cel} (h : pageR no gsn l = true) : pgOf (laidP no gsn l) no = ((no, gsn, l), 0) := by
 unfold pgOf
 rw [if_neg (lpg_zer h), readP_laid h, if_pos ⟨rfl, rfl⟩]
theorem Told.set {now : List Pg} {B : Nat → Bs} {n no : Nat} {a : Pg} {s : Bs} (h : Told now B n) (hn : no < n) (e : pgOf s no = (pgT a, 0)) : Told (now.set no a) (updB B no s) n := by
 refine ⟨by rw [List.length_set]; exact h.1, fun k hk => ?_⟩
 unfold updB
 by_cases g : k = no
 ·
  subst g
  exact ⟨a, by rw [List.getElem?_set_self (by rw [h.1]; exact hk)], by rw [if_pos rfl]; exact e⟩
 ·
  obtain ⟨b, h1, h2⟩ := h.2 k hk
  exact ⟨b, by rw [List.getElem?_set_ne (by omega)]; exact h1, by rw [if_neg g]; exact h2⟩
theorem Told.congr {now : List Pg} {B B' : Nat → Bs} {n : Nat} (h : Told now B n) (e : ∀ k, k < n → B' k = B k) : Told now B' n := ⟨h.1, fun k hk => by rw [e k hk]; exact h.2 k hk⟩
theorem lpg_right {a : Pg} (h : lpg a ≠ []) : pageR a.1 a.2.1 a.2.2.2 = true := by
 cases g : pageR a.1 a.2.1 a.2.2.2 with
 | true => rfl
 | false => exact absurd (laidP_no g) h
theorem lpg_len {a : Pg} (h : lpg a ≠ []) : (lpg a).length = 256 := laidP_len (lpg_right h)
theorem page_no {no gsn : Int} {l : List Cel} (h : pageR no gsn l = true) : 0 ≤ no ∧ no < 64 := by
 unfold pageR at h
 rw [Bool.and_eq_true] at h
 have := of_decide_eq_true h.1
 exact ⟨this.1, this.2.1⟩
/-- groups of a Store have their places -/
theorem gok_st {n k : Nat} {no : Nat} {s : Bs} (hk : 5 + 4 * n ≤ k) (hn : no < n) (h64 : no < 64) (hs : s.length = 256) : ∀ g ∈ stG no s, GOk g k := by
 intro g hg
 simp only [stG, List.mem_cons, List.not_mem_nil, or_false] at hg
 rcases hg with rfl | rfl | rfl | rfl
 · exact gok_set hs (by decide) (by omega)
 · exact gok_mrk ⟨by omega, by omega⟩ (by omega)
 · exact gok_set hs (by unfold plc; omega) (by unfold plc; omega)
 · exact gok_nil (by omega)
theorem gok_mend {n k : Nat} {no : Nat} {s : Bs} (hk : 5 + 4 * n ≤ k) (hn : no < n) (hs : s.length = 256) : ∀ g ∈ mendG no s, GOk g k := by
 intro g hg
 simp only [mendG, List.mem_cons, List.not_mem_nil, or_false] at hg
 rcases hg with rfl | rfl
 · exact gok_set hs (by unfold plc; omega) (by unfold plc; omega)
 · exact gok_nil (by omega)
/-- a Store on pages as they lie: it comes through, or a crash ends it -/
theorem st_spec {p : Pw} {la : List Bs} {n : Nat} {B : Nat → Bs} {a : Pg} (hT : Tw la n B) (ho : p.off = false) (hs : lpg a ≠ []) (hn : a.1 < (n : Int)) :
  ((st1 ⟨p, la, []⟩ n a).1 = 0 ∧ Tw (st1 ⟨p, la, []⟩ n a).2.la n (updB B a.1.toNat (lpg a)) ∧ (st1 ⟨p, la, []⟩ n a).2.lo = [] ∧ (st1 ⟨p, la, []⟩ n a).2.p.off = false) ∨
  ((st1 ⟨p, la, []⟩ n a).1 = 6 ∧ LoOk (st1 ⟨p, la, []⟩ n a).2.lo (st1 ⟨p, la, []⟩ n a).2.la.length ∧ ∀ keep, Pend (settleS (st1 ⟨p, la, []⟩ n a).2.lo (st1 ⟨p, la, []⟩ n a).2.la keep) n B a.1.toNat (lpg a)) := by
 have hR := page_no (lpg_right hs)
 obtain ⟨no, e⟩ : ∃ no : Nat, a.1 = (no : Int) := ⟨a.1.toNat, by omega⟩
 have hL := lpg_len hs
 have hlen := hT.len
 have e1 : st1 ⟨p, la, []⟩ n a = runs ⟨p, la, []⟩ (stG no (lpg a)) := by unfold st1; rw [if_neg (fun g => g.elim hs (by omega)), e]
 rw [e1, e, Int.toNat_natCast]
 rcases runs_spec (stG no (lpg a)) p la (gok_st (n := n) hlen (by omega) (by omega) hL) ho with ⟨h1, h2, h3, h4⟩ | ⟨h1, h2, pre, g, post, h3, h4, h5⟩
 · exact .inl ⟨h1, by rw [h2]; exact st_ok hT hL (by omega), h3, h4⟩
 ·
  refine .inr ⟨h1, by rw [runs_len]; exact h2, fun keep => ?_⟩
  rw [h4]
  exact st_mix hT hL (by omega) h3 (crash_mix h5 (fun q hq => (h2 q hq).1.1) keep _)
theorem noted_blank (n : Int) : notedS blankS n = (-1, 0) := if_pos rfl
theorem put_one {no : Nat} (h : no < 64) : putS 1 [(no : Int) + 1] = [by8 ((no : Int) + 1)] := by rw [put1 ⟨by omega, by omega⟩, be1]
theorem note_head {no : Nat} (h : no < 64) : noteS no = by8 ((no : Int) + 1) :: zer 63 := by
 unfold noteS
 rw [put_one h]
 rfl
theorem by8_one {x : Int} (h : 0 ≤ x ∧ x ≤ 255) : ((by8 x).toNat : Int) = x := by
 have e := by8_len (n := x.toNat) (by omega)
 rw [show ((x.toNat : Nat) : Int) = x by omega] at e
 omega
theorem noted_note {no n : Nat} (h : no < n) (hn : n ≤ 64) : notedS (noteS no) n = ((no : Int), 0) := by
 have e := by8_one (x := (no : Int) + 1) ⟨by omega, by omega⟩
 rw [note_head (by omega)]
 unfold notedS
 have h0 : ((by8 ((no : Int) + 1) :: zer 63)[0]?).getD 0 = by8 ((no : Int) + 1) := rfl
 have h1 : (by8 ((no : Int) + 1) :: zer 63).drop 1 = zer 63 := rfl
 rw [h0, h1]
 have hne : by8 ((no : Int) + 1) :: zer 63 ≠ zer 64 := fun g => by
  have g1 : by8 ((no : Int) + 1) = 0 := (List.cons.inj (show by8 ((no : Int) + 1) :: zer 63 = 0 :: zer 63 from g)).1
  rw [g1] at e
  have : ((0 : UInt8).toNat : Int) = 0 := rfl
  omega
 rw [if_neg hne, if_neg (fun g => g.elim (fun g => by omega) (fun g => g.elim (fun g => by omega) (fun g => g rfl)))]
 have : (((by8 ((no : Int) + 1)).toNat : Int) - 1, (0 : Int)) = ((no : Int), 0) := by rw [e]; congr 1; omega
 exact this
/-- the mending of what may be under way -/
theorem mend_spec {p : Pw} {la : List Bs} {n : Nat} {B : Nat → Bs} {no : Nat} {gsn : Int} {l : List Cel} (hP : Pend la n B no (laidP no gsn l)) (hr : pageR no gsn l = true) (hn : no < n) (hn64 : n ≤ 64) (ho : p.off = false) :
  ((mendR ⟨p, la, []⟩ n).1 = 0 ∧ (Tw (mendR ⟨p, la, []⟩ n).2.la n B ∨ Tw (mendR ⟨p, la, []⟩ n).2.la n (updB B no (laidP no gsn l))) ∧ (mendR ⟨p, la, []⟩ n).2.lo = [] ∧ (mendR ⟨p, la, []⟩ n).2.p.off = false) ∨
  ((mendR ⟨p, la, []⟩ n).1 = 6 ∧ LoOk (mendR ⟨p, la, []⟩ n).2.lo (mendR ⟨p, la, []⟩ n).2.la.length ∧ ∀ keep, Pend (settleS (mendR ⟨p, la, []⟩ n).2.lo (mendR ⟨p, la, []⟩ n).2.la keep) n B no (laidP no gsn l)) := by
 have hL := laidP_len hr
 obtain ⟨hlen, ⟨h0, hp⟩ | ⟨h0, hc, hb⟩⟩ := hP
 ·
  have e : mendR ⟨p, la, []⟩ n = (0, ⟨p, la, []⟩) := by
   unfold mendR
   simp only [h0, noted_blank, ho]
   rfl
  rw [e]
  exact .inl ⟨rfl, hp.imp (fun q => ⟨hlen, h0, q⟩) (fun q => ⟨hlen, h0, q⟩), rfl, ho⟩
 ·
  have e : mendR ⟨p, la, []⟩ n = runs ⟨p, la, []⟩ (mendG no (laidP no gsn l)) := by
   unfold mendR
   simp only [h0, hc, noted_note hn hn64, readP_laid hr, ho]
   rw [if_neg (by decide), if_neg (by decide), if_neg (by omega), if_pos ⟨trivial, trivial⟩]
  rw [e]
  rcases runs_spec (mendG no (laidP no gsn l)) p la (gok_mend (n := n) hlen hn hL) ho with ⟨h1, h2, h3, h4⟩ | ⟨h1, h2, pre, g, post, h3, h4, h5⟩
  · exact .inl ⟨h1, .inr (by rw [h2]; exact mend_okT hlen hb hL hn), h3, h4⟩
  ·
   refine .inr ⟨h1, by rw [runs_len]; exact h2, fun keep => ?_⟩
   rw [h4]
   exact mend_mix hlen h0 hc hb hL hn h3 (crash_mix h5 (fun q hq => (h2 q hq).1.1) keep _)
theorem tw_mend {p : Pw} {la : List Bs} {n : Nat} {B : Nat → Bs} (h : Tw la n B) (ho : p.off = false) : mendR ⟨p, la, []⟩ n = (0, ⟨p, la, []⟩) := by
 unfold mendR
 simp only [h.note, noted_blank, ho]
 rfl
end Go.Q
namespace Go.Q
/-- a power that nobody armed -/
theorem wrs_ne6 : ∀ (g : Grp) (d : Dv), d.p.off = false → d.p.armed = false → (wrs d g).1 ≠ 6 ∧ (wrs d g).2.p.off = false ∧ (wrs d g).2.p.armed = false
 | [], _, h1, h2 => ⟨(show (0 : Int) ≠ 6 by decide), h1, h2⟩
 | (n, s) :: t, d, h1, h2 => by
  have hb : useB d.p = true ∧ (useS d.p).off = false ∧ (useS d.p).armed = false := by
   unfold useB useS
   rw [h1, h2]
   exact ⟨rfl, rfl, rfl⟩
  have e : wrs d ((n, s) :: t) = if d.wrE n s = 0 then wrs (d.wr n s) t else (d.wrE n s, d.wr n s) := rfl
  rw [e]
  split
  · exact wrs_ne6 t (d.wr n s) hb.2.1 hb.2.2
  ·
   refine ⟨?_, hb.2.1, hb.2.2⟩
   unfold Dv.wrE writeE
   rw [if_pos hb.1]
   split
   · show (0 : Int) ≠ 6; decide
   · show (1 : Int) ≠ 6; decide
theorem wrsy_ne6 {g : Grp} {d : Dv} (h1 : d.p.off = false) (h2 : d.p.armed = false) : (wrsy d g).1 ≠ 6 ∧ (wrsy d g).2.p.off = false ∧ (wrsy d g).2.p.armed = false := by
 obtain ⟨a1, a2, a3⟩ := wrs_ne6 g d h1 h2
 unfold wrsy
 split
 ·
  have hb : useB (wrs d g).2.p = true ∧ (useS (wrs d g).2.p).off = false ∧ (useS (wrs d g).2.p).armed = false := by
   unfold useB useS
   rw [a2, a3]
   exact ⟨rfl, rfl, rfl⟩
  refine ⟨?_, hb.2.1, hb.2.2⟩
  unfold Dv.syE syncE
  rw [if_pos hb.1]
  show (0 : Int) ≠ 6; decide
 · exact ⟨a1, a2, a3⟩
theorem runs_ne6 : ∀ (gs : List Grp) (d : Dv), d.p.off = false → d.p.armed = false → (runs d gs).1 ≠ 6 ∧ (runs d gs).2.p.off = false ∧ (runs d gs).2.p.armed = false
 | [], _, h1, h2 => ⟨(show (0 : Int) ≠ 6 by decide), h1, h2⟩
 | g :: t, d, h1, h2 => by
  have e : runs d (g :: t) = if (wrsy d g).1 = 0 then runs (wrsy d g).2 t else wrsy d g := rfl
  obtain ⟨a1, a2, a3⟩ := wrsy_ne6 (g := g) h1 h2
  rw [e]
  split
  · exact runs_ne6 t _ a2 a3
  · exact ⟨a1, a2, a3⟩
theorem mend_ne6 {d : Dv} {n : Int} (h1 : d.p.off = false) (h2 : d.p.armed = false) : (mendR d n).1 ≠ 6 := by
 unfold mendR
 rw [if_neg (by rw [h1]; decide)]
 split
 · show (9 : Int) ≠ 6; decide
 ·
  split
  · show (0 : Int) ≠ 6; decide
  ·
   split
   · exact (runs_ne6 _ _ h1 h2).1
   · show (9 : Int) ≠ 6; decide
theorem st_spec2 {d : Dv} {n : Nat} {B : Nat → Bs} {a : Pg} (hlo : d.lo = []) (hT : Tw d.la n B) (ho : d.p.off = false) :
  ((st1 d n a).1 = 0 ∧ lpg a ≠ [] ∧ a.1 < (n : Int) ∧ Tw (st1 d n a).2.la n (updB B a.1.toNat (lpg a)) ∧ (st1 d n a).2.lo = [] ∧ (st1 d n a).2.p.off = false) ∨
  ((st1 d n a).1 = 6 ∧ lpg a ≠ [] ∧ a.1 < (n : Int) ∧ LoOk (st1 d n a).2.lo (st1 d n a).2.la.length ∧ ∀ keep, Pend (settleS (st1 d n a).2.lo (st1 d n a).2.la keep) n B a.1.toNat (lpg a)) ∨ st1 d n a = (1, d) := by
 by_cases hs : lpg a = []
 · exact .inr (.inr (if_pos (.inl hs)))
 ·
  by_cases hn : a.1 < (n : Int)
  ·
   rw [Dv.eta0 hlo]
   rcases st_spec (p := d.p) (a := a) hT ho hs hn with ⟨h1, h2, h3, h4⟩ | ⟨h1, h2, h3⟩
   · exact .inl ⟨h1, hs, hn, h2, h3, h4⟩
   · exact .inr (.inl ⟨h1, hs, hn, h2, h3⟩)
  · exact .inr (.inr (if_pos (.inr (by omega))))
/-- how TwiceCrashes stands: nothing under way, or one page -/
def TcS (d : Dv) (now ul : List Pg) (B : Nat → Bs) : Prop :=
 Told now B 6 ∧ LoOk d.lo d.la.length ∧ ((ul = [] ∧ d.lo = [] ∧ d.p.off = false ∧ Tw d.la 6 B) ∨ (∃ a, ul = [a] ∧ lpg a ≠ [] ∧ a.1 < 6 ∧ ∀ keep, Pend (settleS d.lo d.la keep) 6 B a.1.toNat (lpg a)))
theorem TcS.go {d : Dv} {now : List Pg} {B : Nat → Bs} (h : TcS d now [] B) : Told now B 6 ∧ d.lo = [] ∧ d.p.off = false ∧ Tw d.la 6 B := by
 obtain ⟨h1, _, ⟨_, h2, h3, h4⟩ | ⟨a, e, _⟩⟩ := h
 · exact ⟨h1, h2, h3, h4⟩
 · cases e
theorem lpg_no {a : Pg} (h : lpg a ≠ []) : 0 ≤ a.1 ∧ a.1 < 64 := page_no (lpg_right h)
theorem lpg_of {a : Pg} (h : lpg a ≠ []) : pgOf (lpg a) a.1 = (pgT a, 0) := pgOf_laid (lpg_right h)
theorem TcS.ok {d : Dv} {now : List Pg} {B : Nat → Bs} {a : Pg} (h : TcS d now [] B) (e : (st1 d 6 a).1 = 0) : (0 ≤ a.1 ∧ a.1 < 6) ∧ TcS (st1 d 6 a).2 (now.set a.1.toNat a) [] (updB B a.1.toNat (lpg a)) := by
 obtain ⟨h1, h2, h3, h4⟩ := h.go
 rcases st_spec2 (n := 6) (a := a) h2 h4 h3 with ⟨_, q2, q3, q4, q5, q6⟩ | ⟨q, _⟩ | q
 ·
  have hn := lpg_no q2
  refine ⟨⟨hn.1, q3⟩, h1.set (by omega) (by rw [show ((a.1.toNat : Nat) : Int) = a.1 by omega]; exact lpg_of q2), ?_, .inl ⟨rfl, q5, q6, q4⟩⟩
  exact (show LoOk (st1 d 6 a).2.lo (st1 d 6 a).2.la.length from by rw [show (st1 d 6 a).2.lo = [] from q5]; exact LoOk.nil _)
 · exact absurd (q.symm.trans e) (by decide)
 ·
  have e2 : (st1 d 6 a).1 = 1 := congrArg Prod.fst q
  rw [e2] at e; cases e
theorem TcS.off {d : Dv} {now : List Pg} {B : Nat → Bs} {a : Pg} (h : TcS d now [] B) (e : (st1 d 6 a).1 = 6) : TcS (st1 d 6 a).2 now [a] B := by
 obtain ⟨h1, h2, h3, h4⟩ := h.go
 rcases st_spec2 (n := 6) (a := a) h2 h4 h3 with ⟨q, _⟩ | ⟨_, q2, q3, q4, q5⟩ | q
 · exact absurd (q.symm.trans e) (by decide)
 · exact ⟨h1, q4, .inr ⟨a, rfl, q2, q3, q5⟩⟩
 ·
  have e2 : (st1 d 6 a).1 = 1 := congrArg Prod.fst q
  rw [e2] at e; cases e
/-- behind the first crash, and behind the mending that another one may end -/
def TcP (la : List Bs) (ul : List Pg) (B : Nat → Bs) : Prop := (ul = [] ∧ Tw la 6 B) ∨ (∃ a, ul = [a] ∧ lpg a ≠ [] ∧ a.1 < 6 ∧ Pend la 6 B a.1.toNat (lpg a))
theorem TcS.crash {d : Dv} {now ul : List Pg} {B : Nat → Bs} (h : TcS d now ul B) (keep : List Int) : TcP (d.cr keep).la ul B := by
 obtain ⟨_, _, ⟨h1, h2, _, h4⟩ | ⟨a, h1, h2, h3, h4⟩⟩ := h
 ·
  refine .inl ⟨h1, ?_⟩
  show Tw (settleS d.lo d.la keep) 6 B
  rw [h2, settle_none]; exact h4
 · exact .inr ⟨a, h1, h2, h3, h4 keep⟩
theorem TcP.open {d : Dv} {ul : List Pg} {B : Nat → Bs} (h : TcP d.la ul B) (hlo : d.lo = []) (ho : d.p.off = false) (ha : d.p.armed = false) :
  (mendR d 6).1 = 0 ∧ (mendR d 6).2.lo = [] ∧ (mendR d 6).2.p.off = false ∧ ((ul = [] ∧ Tw (mendR d 6).2.la 6 B) ∨ (∃ a, ul = [a] ∧ lpg a ≠ [] ∧ a.1 < 6 ∧ (Tw (mendR d 6).2.la 6 B ∨ Tw (mendR d 6).2.la 6 (updB B a.1.toNat (lpg a))))) := by
 have h6 := mend_ne6 (n := 6) ho ha
 rw [Dv.eta0 hlo] at h6 ⊢
 rcases h with ⟨h1, h2⟩ | ⟨a, h1, h2, h3, h4⟩
 ·
  have e : mendR ⟨d.p, d.la, []⟩ 6 = (0, ⟨d.p, d.la, []⟩) := tw_mend (p := d.p) h2 ho
  rw [e]
  exact ⟨rfl, rfl, ho, .inl ⟨h1, h2⟩⟩
 ·
  have hn := lpg_no h2
  have ea : ((a.1.toNat : Nat) : Int) = a.1 := by omega
  have el : laidP (a.1.toNat : Int) a.2.1 a.2.2.2 = lpg a := by rw [ea]; rfl
  have H := mend_spec (p := d.p) (n := 6) (B := B) (no := a.1.toNat) (gsn := a.2.1) (l := a.2.2.2) (by rw [el]; exact h4) (by rw [ea]; exact lpg_right h2) (by omega) (by decide) ho
  rw [el] at H
  rcases H with ⟨q1, q2, q3, q4⟩ | ⟨q1, _⟩
  · exact ⟨q1, q3, q4, .inr ⟨a, h1, h2, h3, q2⟩⟩
  · exact absurd q1 h6
end Go.Q
namespace Go.Q
theorem Win.first {a : Nat} {t s : List UInt8} (h : Win a t s) (ha : 8 ≤ a) : t[0]? = s[0]? := by
 have hl := h.1
 cases t with
 | nil => cases s with
  | nil => rfl
  | cons c s => simp at hl
 | cons b t => cases s with
  | nil => simp at hl
  | cons c s =>
   have e : b = c := byte_ext fun i hi => by
    have := h.2 i (.inl (by omega))
    rw [bits_get, bits_get, Nat.div_eq_of_lt hi, Nat.mod_eq_of_lt hi] at this
    simpa using this
   rw [e]; rfl
end Go.Q
namespace Go.Q
def fitsF (ep cut pl ab : Int) (f : Fr) : Bool := rightS f && decide (f.pl = pl ∧ ab < f.gsn ∧ f.ep ≤ ep ∧ (f.pl < cut ∨ f.ep = ep))
def chainS (ep cut : Int) : Nat → List UInt8 → Int → Int → List Fr × Int
 | 0, _, pl, _ => ([], pl)
 | n + 1, s, pl, ab => if (opensB s && fitsF ep cut pl ab (oF s)) = true then (oF s :: (chainS ep cut n (s.drop (oN s).toNat) (pl + oN s) (oF s).gsn).1, (chainS ep cut n (s.drop (oN s).toNat) (pl + oN s) (oF s).gsn).2) else ([], pl)
theorem chain_stop {ep cut : Int} {n : Nat} {s : List UInt8} {pl ab : Int} (h : opensB s = false ∨ fitsF ep cut pl ab (oF s) = false) : chainS ep cut n s pl ab = ([], pl) := by
 cases n with
 | zero => rfl
 | succ n =>
  rw [chainS, if_neg]
  rcases h with h | h
  · rw [h]; simp
  · rw [h]; simp
theorem opens_nil : opensB [] = false := opens_short (by decide)
theorem oN_le {s : List UInt8} (h : opensB s = true) : 25 ≤ oN s ∧ oN s ≤ (s.length : Int) := by
 have h1 := oN_yes h
 have h2 := opens_made h
 unfold oN at *
 rw [if_pos h] at *
 omega
theorem chain_step {ep cut : Int} {n : Nat} {s : List UInt8} {pl ab : Int} {acc : List Fr} {res : List Fr × Int} (hn : 0 < n) (h1 : opensB s = true) (h2 : fitsF ep cut pl ab (oF s) = true)
  (hr : res = (acc ++ (chainS ep cut n s pl ab).1, (chainS ep cut n s pl ab).2)) :
  res = ((acc ++ [oF s]) ++ (chainS ep cut (n - 1) (s.drop (oN s).toNat) (pl + oN s) (oF s).gsn).1, (chainS ep cut (n - 1) (s.drop (oN s).toNat) (pl + oN s) (oF s).gsn).2) := by
 obtain ⟨m, rfl⟩ : ∃ m, n = m + 1 := ⟨n - 1, by omega⟩
 rw [hr, chainS, if_pos (by rw [h1, h2]; rfl)]
 simp
theorem chain_end {ep cut : Int} {n : Nat} {s : List UInt8} {pl ab : Int} {acc : List Fr} {res : List Fr × Int} (h : opensB s = false ∨ fitsF ep cut pl ab (oF s) = false)
  (hr : res = (acc ++ (chainS ep cut n s pl ab).1, (chainS ep cut n s pl ab).2)) : res = (acc, pl) := by
 rw [hr, chain_stop h]; simp
theorem sumS_two {a b : Int} (ha : 0 ≤ a) (hb : 0 ≤ b) (hab : a + b ≤ 4000000000000000000) : sumS 0 [a, b] = a + b := by
 rw [sumS, if_neg (by omega), sumS, if_neg (by omega), sumS]; omega
theorem take_flat_le (l : List (List UInt8)) (k : Nat) {x : List UInt8} (h : l[k]? = some x) : (l.take k).flatten.length + x.length ≤ l.flatten.length := by
 have e := drop_of h
 have h2 : l.flatten = (l.take k).flatten ++ (l.drop k).flatten := by rw [← List.flatten_append, List.take_append_drop]
 rw [h2, e, List.length_append, List.flatten_cons, List.length_append]; omega
end Go.Q
namespace Go.Q
theorem Has.below {w w' : World} (H : Has w w' [[Hp.of w]]) : RowKit.Below w.heap.size w w' := by
 have hs : ∀ b o, w.heap[b]? = some o → w'.heap[b]? = some o := Has0.sub H (Hp.of w) (by simp)
 have hb : ∀ k, k < w.heap.size → w'.heap[k]? = w.heap[k]? := fun k hk => by
  rw [hs k w.heap[k] (Array.getElem?_eq_getElem hk), Array.getElem?_eq_getElem hk]
 refine ⟨H.os, H.tape, H.output, ?_, hb⟩
 rcases Nat.eq_zero_or_pos w.heap.size with h | h
 · omega
 ·
  have h1 := hb (w.heap.size - 1) (by omega)
  rw [Array.getElem?_eq_getElem (show w.heap.size - 1 < w.heap.size by omega)] at h1
  have h2 := (Array.getElem?_eq_some_iff.1 h1).1
  omega
/-- cells that are read one by one, as a row -/
theorem cells_row {w : World} {x : Addr} {vs : List Value} (h0 : 0 < vs.length) (h : ∀ i v, vs[i]? = some v → w.cell? (x.add i) = some v) : ∃ b off, x = ⟨b, off, none⟩ ∧ CellsAt [Hp.of w] b off vs := by
 obtain ⟨b, off, spot⟩ := x
 have hc := h 0 vs[0] (List.getElem?_eq_getElem h0)
 simp only [Addr.add, if_true, World.cell?] at hc
 cases hb : w.heap[b]? with
 | none => rw [hb] at hc; cases hc
 | some o =>
  cases o with
  | cells c T f =>
   rw [hb] at hc
   simp only at hc
   cases spot with
   | some s => simp at hc
   | none =>
    refine ⟨b, off, rfl, Hp.of w, List.mem_singleton.2 rfl, c, T, f, hb, fun j v hv => ?_⟩
    have := h j v hv
    rw [add_lit] at this
    simpa [World.cell?, hb] using this
  | _ => rw [hb] at hc; simp at hc
end Go.Q
namespace Go.Q
theorem wf_i64 {x : Int} (h : (Lit.int .i64 x).wf = true) : -9223372036854775808 ≤ x ∧ x ≤ 9223372036854775807 := by
 simp only [Lit.wf, IntKind.min, IntKind.max, IntKind.signed, IntKind.bits, Bool.and_eq_true, decide_eq_true_eq, if_true] at h
 omega
theorem wf_u8 {x : Int} (h : (Lit.int .u8 x).wf = true) : 0 ≤ x ∧ x ≤ 255 := by
 simp [Lit.wf, IntKind.min, IntKind.max, IntKind.signed, IntKind.bits] at h
 omega
end Go.Q
namespace Go.Q
section
variable {H : Type} {enc : TypeId × Value → H} {P : Program} {w : World} {t e : TypeId} {cs : List Value}
/-- These cells read as a value of the type. -/
def Rd (enc : TypeId × Value → H) (P : Program) (w : World) (t : TypeId) (cs : List Value) : Prop := ∃ fuel x, DataW.trod enc P w 0 (fun _ => true) true fuel t cs = some x
theorem rd_of {v : Value} {d : DataW H} {ps : List MemPlace} (h : DataW.Trod enc P w 0 (fun _ => true) true t v d ps) : Rd enc P w t v.cells.toList := ⟨h.choose, _, h.choose_spec⟩
theorem rd_int {k : IntKind} (ht : P.underlying t = some (.int k)) (h : Rd enc P w t cs) : ∃ n, cs = [.int k n] ∧ (Lit.int k n).wf = true := by
 obtain ⟨f, x, h⟩ := h
 obtain ⟨n, h1, _, h2⟩ := DataW.trod_int ht h
 exact ⟨n, h1, h2⟩
theorem rd_i64 (ht : P.underlying t = some (.int .i64)) (h : Rd enc P w t cs) : ∃ n, cs = [iV n] ∧ (-9223372036854775808 : Int) ≤ n ∧ n ≤ 9223372036854775807 := by
 obtain ⟨n, h1, h2⟩ := rd_int ht h
 exact ⟨n, h1, wf_i64 h2⟩
theorem rd_string (ht : P.underlying t = some .string) (h : Rd enc P w t cs) : ∃ l : List UInt8, cs = [S l] ∧ l.length ≤ 9223372036854775807 := by
 obtain ⟨f, x, h⟩ := h
 obtain ⟨s, h1, _, h2⟩ := DataW.trod_string ht h
 exact ⟨s.data.toList, by rw [h1, S_of], by rw [show maxLen = 9223372036854775807 from rfl] at h2; exact h2⟩
theorem rd_struct {fs : Array Field} (ht : P.underlying t = some (.struct fs)) (h : Rd enc P w t cs) :
  cs.length = P.cellsOf t ∧ ∀ (i : Nat) (f : Field), fs[i]? = some f → Rd enc P w f.type ((cs.drop f.offset).take (P.cellsOf f.type)) := by
 obtain ⟨f, x, h⟩ := h
 obtain ⟨xs, n, _, _, h1, h2, h3⟩ := DataW.trod_struct ht h
 refine ⟨h1, fun i f hf => ?_⟩
 have hi : i < xs.length := by rw [h2]; exact (Array.getElem?_eq_some_iff.1 hf).1
 exact ⟨n, xs[i], by rw [h3 i f hf, List.getElem?_eq_getElem hi]⟩
theorem rd_field {fs : Array Field} {i k : Nat} {f : Field} {T : TypeId} {ds : List Value} (hf : ∀ (i : Nat) (f : Field), fs[i]? = some f → Rd enc P w f.type ((cs.drop f.offset).take (P.cellsOf f.type)))
  (h : fs[i]? = some f) (hT : f.type = T) (hc : P.cellsOf T = k) (hd : (cs.drop f.offset).take k = ds) : Rd enc P w T ds := by
 have g := hf i f h
 rw [hT, hc, hd] at g
 exact g
/-- a value of a type of one cell is its cell -/
theorem val_one {r : Reach} {b0 : Nat} {v u : Value} (hn : match P.underlying t with | some (.struct _) => False | some (.array _ _) => False | _ => True) (hval : Value.okWide P w r b0 t v) (h : v.cells.toList = [u]) : v = u := by
 cases v with
 | agg c =>
  unfold Value.okWide at hval
  cases hu : P.underlying t with
  | none => rw [hu] at hval; simp [Cell.okWide, Cell.ok, hu] at hval
  | some d => rw [hu] at hn hval; cases d <;> first | exact hn.elim | (simp [Cell.okWide, Cell.ok, hu] at hval)
 | _ => simpa [Value.cells] using h
end
end Go.Q
namespace Go.Q
section
variable {H : Type} {enc : TypeId × Value → H} {P : Program} {w : World} {t e : TypeId} {cs : List Value}
/-- These cells read as a value of the type, and each text and row in it is within the reach. -/
def RdS (enc : TypeId × Value → H) (P : Program) (w : World) (t : TypeId) (cs : List Value) : Prop := ∃ fuel x, DataW.trod enc P w 0 (fun _ => true) true fuel t cs = some x ∧ ∀ n ∈ DataW.weights P t x.1, n ≤ reachBytes
theorem RdS.rd (h : RdS enc P w t cs) : Rd enc P w t cs := let ⟨f, x, h, _⟩ := h; ⟨f, x, h⟩
end
end Go.Q
namespace Go.Q
structure DAct where
 kind : Int
 n : Int
 other : Bool
 dv : Value
 data : List Bs
 kv : Value
 keep : List Int
/-- An act whose rows read. -/
def DaOk (R : List Hp) (a : DAct) : Prop := Sl R 1 a.dv a.data.length (a.data.map sV) ∧ Ints R a.kv a.keep ∧ (∀ t ∈ a.data, t.length ≤ 140737488355328) ∧ -9223372036854775808 ≤ a.n ∧ a.n ≤ 9223372036854775807
theorem DaOk.mono {R R' : List Hp} {a : DAct} (h : DaOk R a) (hs : R ⊆ R') : DaOk R' a := ⟨h.1.mono hs, h.2.1.mono hs, h.2.2⟩
/-- An act that is not too great. -/
def DFin (a : DAct) : Prop := a.data.length ≤ 6 ∧ a.data.flatten.length ≤ 200 ∧ a.keep.length ≤ 40
def DFine (l : List DAct) : Prop := l.length ≤ 60 ∧ ∀ a ∈ l, DFin a
theorem DFine.snoc {l : List DAct} {k : Nat} {x : DAct} (h : ∀ a ∈ l.take k, DFin a) (hx : l[k]? = some x) (hf : DFin x) : ∀ a ∈ l.take (k + 1), DFin a := by
 rw [List.take_add_one, hx]
 intro y hy
 rcases List.mem_append.1 hy with g | g
 · exact h y g
 · simp at g; rw [g]; exact hf
theorem flatten_take_succ {l : List Bs} {k : Nat} {x : Bs} (hx : l[k]? = some x) : (l.take (k + 1)).flatten = (l.take k).flatten ++ x := by
 rw [List.take_add_one, hx]; simp
end Go.Q
namespace Go.Q
structure AAct where
 kind : Int
 at_ : Int
 size : Int
 dv : Value
 data : List Bs
 kv : Value
 keep : List Int
def AaOk (R : List Hp) (a : AAct) : Prop := Sl R 1 a.dv a.data.length (a.data.map sV) ∧ Ints R a.kv a.keep ∧ (∀ t ∈ a.data, t.length ≤ 140737488355328)
theorem AaOk.mono {R R' : List Hp} {a : AAct} (h : AaOk R a) (hs : R ⊆ R') : AaOk R' a := ⟨h.1.mono hs, h.2.1.mono hs, h.2.2⟩
def AFin (a : AAct) : Prop := a.data.length ≤ 6 ∧ a.data.flatten.length ≤ 2000 ∧ a.keep.length ≤ 40
def AFine (l : List AAct) : Prop := l.length ≤ 30 ∧ ∀ a ∈ l, AFin a
theorem AFine.snoc {l : List AAct} {k : Nat} {x : AAct} (h : ∀ a ∈ l.take k, AFin a) (hx : l[k]? = some x) (hf : AFin x) : ∀ a ∈ l.take (k + 1), AFin a := by
 rw [List.take_add_one, hx]
 intro y hy
 rcases List.mem_append.1 hy with g | g
 · exact h y g
 · simp at g; rw [g]; exact hf
theorem full_blank (k : Nat) : Full64 (List.replicate k blankS) := fun s hs => by rw [(List.mem_replicate.1 hs).2]; rfl
end Go.Q
namespace Go.Q
/-- the bytes of an area, told by a row -/
def Cn (now : Bs) (la : List Bs) (lo : List (Int × Bs)) (fr n : Nat) : Prop := now.length = n * 64 ∧ ∀ i, i < n * 64 → now[i]? = (nowAt la lo (fr + i / 64))[i % 64]?
def rdR (now : Bs) (a L k : Nat) : Bs := (List.range k).map fun j => (now[(a + j) % L]?).getD 0
theorem rdR_succ (now : Bs) (a L k : Nat) : rdR now a L (k + 1) = rdR now a L k ++ [(now[(a + k) % L]?).getD 0] := by
 unfold rdR; rw [List.range_succ, List.map_append]; rfl
theorem rdR_len (now : Bs) (a L k : Nat) : (rdR now a L k).length = k := by unfold rdR; simp
theorem rdR_add (now : Bs) (a L d : Nat) : ∀ k, rdR now a L (d + k) = rdR now a L d ++ rdR now ((a + d) % L) L k
 | 0 => by simp [rdR]
 | k + 1 => by
  rw [← Nat.add_assoc, rdR_succ, rdR_add now a L d k, rdR_succ, List.append_assoc]
  rw [show ((a + d) % L + k) % L = (a + (d + k)) % L by rw [Nat.mod_add_mod, Nat.add_assoc]]
theorem rdR_at (now : Bs) {a L k j : Nat} (hj : j < k) : (rdR now a L k)[j]? = some ((now[(a + j) % L]?).getD 0) := by
 unfold rdR; rw [List.getElem?_map, List.getElem?_range hj]; rfl
theorem piece1_nat {fr a z : Nat} (hz : 0 < z) : piece1 (fr : Int) (a : Int) (z : Int) = ⟨((fr + a / 64 : Nat) : Int), ((a % 64 : Nat) : Int), ((min (a % 64 + z) 64 : Nat) : Int)⟩ := by
 unfold piece1; congr 1 <;> omega
def dN (a z : Nat) : Nat := min (a % 64 + z) 64 - a % 64
theorem dN_ok {a z : Nat} (hz : 0 < z) : 0 < dN a z ∧ dN a z ≤ z ∧ a % 64 + dN a z ≤ 64 ∧ min (a % 64 + z) 64 = a % 64 + dN a z := by
 unfold dN; omega
theorem pieces_nat {fr L a z f : Nat} (hz : 0 < z) : piecesS (fr : Int) (L : Int) (f + 1) (a : Int) (z : Int) = ⟨((fr + a / 64 : Nat) : Int), ((a % 64 : Nat) : Int), ((a % 64 + dN a z : Nat) : Int)⟩ :: piecesS (fr : Int) (L : Int) f (((a + dN a z) % L : Nat) : Int) ((z - dN a z : Nat) : Int) := by
 obtain ⟨h1, h2, h3, h4⟩ := dN_ok (a := a) hz
 rw [piecesS, if_neg (by omega), piece1_nat hz, h4]
 simp only
 rw [show (a : Int) + (((a % 64 + dN a z : Nat) : Int) - ((a % 64 : Nat) : Int)) = ((a + dN a z : Nat) : Int) by omega, show (z : Int) - (((a % 64 + dN a z : Nat) : Int) - ((a % 64 : Nat) : Int)) = ((z - dN a z : Nat) : Int) by omega]
 rfl
theorem ring_get {now : Bs} {la : List Bs} {lo : List (Int × Bs)} {fr n : Nat} (h : Cn now la lo fr n) (h64 : ∀ j, j < n → (nowAt la lo (fr + j)).length = 64) : ∀ (f a z : Nat), a < n * 64 → z ≤ f → getP la lo (piecesS (fr : Int) ((n * 64 : Nat) : Int) f (a : Int) (z : Int)) = rdR now a (n * 64) z
 | f, a, 0, _, _ => by cases f <;> rfl
 | 0, a, z + 1, _, h => by omega
 | f + 1, a, z + 1, ha, hf => by
  obtain ⟨h1, h2, h3, h4⟩ := dN_ok (a := a) (z := z + 1) (by omega)
  rw [pieces_nat (by omega)]
  have hr := ring_get h h64 f ((a + dN a (z + 1)) % (n * 64)) (z + 1 - dN a (z + 1)) (Nat.mod_lt _ (by omega)) (by omega)
  unfold getP at hr ⊢
  rw [List.flatMap_cons, hr]
  have hs : rdR now a (n * 64) (z + 1) = rdR now a (n * 64) (dN a (z + 1)) ++ rdR now ((a + dN a (z + 1)) % (n * 64)) (n * 64) (z + 1 - dN a (z + 1)) := by
   rw [← rdR_add]; congr 1; omega
  rw [hs]
  congr 1
  have hlen := h64 (a / 64) (by omega)
  unfold partP
  simp only [Int.toNat_natCast]
  refine List.ext_getElem? fun j => ?_
  rw [List.getElem?_drop, List.getElem?_take]
  by_cases hj : j < dN a (z + 1)
  · rw [if_pos (by omega), rdR_at now hj, Nat.mod_eq_of_lt (show a + j < n * 64 by omega), h.2 _ (by omega), show (a + j) / 64 = a / 64 by omega, show (a + j) % 64 = a % 64 + j by omega, List.getElem?_eq_getElem (by omega)]; rfl
  · rw [if_neg (by omega), List.getElem?_eq_none (by rw [rdR_len]; omega)]
theorem area_now (la : List Bs) (lo : List (Int × Bs)) (fr n : Nat) (h64 : ∀ j, j < n → (nowAt la lo (fr + j)).length = 64) : ∃ now, Cn now la lo fr n := by
 refine ⟨(List.range (n * 64)).map fun i => ((nowAt la lo (fr + i / 64))[i % 64]?).getD 0, by simp, fun i hi => ?_⟩
 have hl := h64 (i / 64) (by omega)
 rw [List.getElem?_map, List.getElem?_range hi, Option.map_some, List.getElem?_eq_getElem (by omega)]; rfl
theorem area_64 {la : List Bs} {lo : List (Int × Bs)} (h64 : Full64 la) (hlo : LoOk lo la.length) {fr n : Int} (hfr : 0 ≤ fr) (hn : 1 ≤ n) (hfn : fr + n ≤ la.length) : ∀ j, j < n.toNat → (nowAt la lo (fr.toNat + j)).length = 64 := fun j hj => nowAt_len h64 hlo (by omega)
theorem getP_now {now : Bs} {la : List Bs} {lo : List (Int × Bs)} {fr n a z : Int} (h : Cn now la lo fr.toNat n.toNat) (h64 : ∀ j, j < n.toNat → (nowAt la lo (fr.toNat + j)).length = 64) (hfr : 0 ≤ fr) (hn : 1 ≤ n) (ha : 0 ≤ a ∧ a < n * 64) (hz : 0 ≤ z) :
  getP la lo (allP fr (n * 64) a z) = rdR now a.toNat (n.toNat * 64) z.toNat := by
 have := ring_get h h64 z.toNat a.toNat z.toNat (by omega) (Nat.le_refl _)
 unfold allP
 rw [show ((n.toNat * 64 : Nat) : Int) = n * 64 by omega, show ((fr.toNat : Nat) : Int) = fr by omega, show ((a.toNat : Nat) : Int) = a by omega, show ((z.toNat : Nat) : Int) = z by omega] at this
 exact this
theorem getP_len {la : List Bs} {lo : List (Int × Bs)} {fr n a z : Int} (h64 : Full64 la) (hlo : LoOk lo la.length) (hfr : 0 ≤ fr) (hn : 1 ≤ n) (hfn : fr + n ≤ la.length) (ha : 0 ≤ a ∧ a < n * 64) (hz : 0 ≤ z) : (getP la lo (allP fr (n * 64) a z)).length = z.toNat := by
 obtain ⟨now, h⟩ := area_now la lo fr.toNat n.toNat (area_64 h64 hlo hfr hn hfn)
 rw [getP_now h (area_64 h64 hlo hfr hn hfn) hfr hn ha hz, rdR_len]
theorem idxN {a n : Int} {kk : Nat} (ha : 0 ≤ a) (hn : 1 ≤ n) : ((a % (64 * n) + (kk : Int)) % (64 * n)).toNat = ((a % (n * 64)).toNat + kk) % (n.toNat * 64) := by
 rw [show 64 * n = n * 64 by omega, Int.toNat_emod (by have := Int.emod_nonneg a (show n * 64 ≠ 0 by omega); omega) (by omega), show (n * 64).toNat = n.toNat * 64 by omega]
 congr 1
 have := Int.emod_nonneg a (show n * 64 ≠ 0 by omega)
 omega
theorem rd_step {now acc : Bs} {a L kk ix : Nat} {c : UInt8} (h : acc = rdR now a L kk) (hi : ix = (a + kk) % L) (hc : now[ix]? = some c) : acc ++ [c] = rdR now a L (kk + 1) := by
 rw [rdR_succ, ← h, ← hi, hc]; rfl
end Go.Q
namespace Go.Q
theorem sl_nil0 {L : List Hp} {sz n cap : Nat} {cs : List Value} (h : Sl L sz (.slice none n cap) n cs) : n = 0 := by
 obtain ⟨q, c, e, h1, h2, h3, h4⟩ := h
 cases e
 rcases Nat.eq_zero_or_pos n with h | h
 · exact h
 · obtain ⟨b, o, e, _⟩ := h4 h; cases e
end Go.Q
namespace Go.Q
def OwnL (e : TypeId) (sz : Nat) (v : Value) (n : Nat) (cs : List Value) (hs : List Hp) : Prop :=
 Own e sz v n cs hs ∨ (cs.length = n * sz ∧ ∃ b cur, v = .slice (some ⟨b, 0, none⟩) n n ∧ hs = [Hp.one b (.cells cur e (0, 0))] ∧ n ≤ maxLen ∧ cur.toList.take (n * sz) = cs)
theorem OwnL.sl {e : TypeId} {sz n : Nat} {v : Value} {cs : List Value} {hs : List Hp} (H : OwnL e sz v n cs hs) : Sl hs sz v n cs := by
 rcases H with H | ⟨hl, b, cur, rfl, rfl, hcm, htake⟩
 · exact H.sl
 ·
  refine ⟨_, n, rfl, Nat.le_refl _, by simpa [maxLen] using hcm, hl, fun _ => ⟨b, 0, rfl, ?_⟩⟩
  refine CellsAt.one ?_
  rw [List.drop_zero, hl]; exact htake
theorem OwnL.nil (e : TypeId) (sz : Nat) : OwnL e sz (.slice none 0 0) 0 [] [] := .inl (Own.nil e sz)
theorem OwnL.one {e : TypeId} {sz n : Nat} {v : Value} {cs : List Value} {hs : List Hp} (H : OwnL e sz v n cs hs) : v.oneCell' = true := Sl.one H.sl
section ops
variable {P : Program} {ρ : Operand → Value} {E w : World} {ss : List (List Hp)} {K : Value → World → Prop} {dst : Option Tmp} {T : TypeId} {pos : String} {after : Array Edge} {g : Option (Nat × Bool)}
/-- append to such a row -/
theorem o_appendL {x y : Operand} {t e : TypeId} {z v u : Value} {sz by_ n m : Nat} {cs ds : List Value} {hs L : List Hp} (ht : P.underlying t = some (.slice e)) (hi : TI P e z sz by_)
  (hz : z.cells.size = sz) (hsz : 0 < sz) (hx : ρ x = v) (ho : OwnL e sz v n cs hs) (hy : ρ y = u) (hu : Sl L sz u m ds) (H : Has E w (hs :: ss)) (hL : L ⊆ ss.flatten)
  (h1 : ∀ u ∈ ds, u.oneCell' = true) (hb : (n + m) * by_ ≤ 140737488355328) (h63 : n + m ≤ 9223372036854775807)
  (hK : ∀ v' hs' w', OwnL e sz v' (n + m) (cs ++ ds) hs' → Has E w' (hs' :: ss) → K v' w') :
  OK P ⟨dst, .call ⟨.builtin .append, #[x, y], #[t, t]⟩, T, pos, after, g⟩ ρ w K := by
 rcases ho with ho | ho
 · exact o_append ht hi hz hsz hx ho hy hu H hL h1 hb h63 fun v' hs' w' h => hK v' hs' w' (.inl h)
 have ho2 : OwnL e sz v n cs hs := .inr ho
 have hrow := ho2.sl
 obtain ⟨hlc, b, cur, rfl, rfl, hcm, htk⟩ := ho
 obtain ⟨i, hi, hiz, hisz, hiby⟩ := hi
 obtain ⟨q, cap, rfl, hnc, hcm2, hl, hq⟩ := hu
 by_cases hm : m = 0
 ·
  subst hm
  have hds : ds = [] := by simpa using hl
  subst hds
  refine zE (v := .slice (some ⟨b, 0, none⟩) n n) (w' := w) ?_ (hK _ _ w (by simpa using ho2) H)
  cases q <;> simp [hx, hy, builtin, Builtin.append_, run_underlying ht, sizeOf, typeInfo, hi, Builtin.lenOf, Builtin.firstCells, loadCells, loadCellsFrom, storeCells]
 ·
  obtain ⟨b2, off2, rfl, hc2⟩ := hq (by omega)
  have hcA : CellsAt [Hp.one b (.cells cur e (0, 0))] b 0 cs := CellsAt.one (by rw [List.drop_zero, hlc]; exact htk)
  obtain ⟨v', w', hr, ho', hg⟩ := run_append_arg_grows (P := P) w t T e i z sz by_ ht hi hiz hisz hiby hz hsz ⟨b, 0, none⟩ n n cs hlc (fun j u hj => by rw [add_lit]; exact H.cell (fun _ hx => List.mem_append_left _ hx) hcA hj)
   ⟨b2, off2, none⟩ m cap ds hl (fun j u hj => by rw [add_lit]; exact H.cell (fun _ hx => List.mem_append_right _ (hL hx)) hc2 hj) (by omega) (by simpa [maxLen] using h63) hb
  obtain ⟨hl', ⟨_, h0⟩ | ⟨k, cap'', cur', rfl, hk, hbk, g1, g2, g3, g4⟩⟩ := ho'
  · omega
  ·
   have H0 : Has E w ss := H.drop
   have hH : Has E w' ([Hp.one k (.cells cur' e (0, 0))] :: ss) := by
    refine Has0.write (an := []) (an' := [Hp.one k (.cells cur' e (0, 0))]) (hs := ss.flatten) H0 hg.os hg.tape hg.output (by simp) (fun j _ => ?_) ?_ (fun j hj _ => hg.block j hj (fun e => by cases e))
    ·
     by_cases hjk : j = k
     · subst hjk; exact .inr hk
     ·
      refine .inl fun h hh => ?_
      rw [List.mem_singleton.1 hh]; unfold Hp.one; rw [if_neg hjk]
    ·
     intro h hh j o hj
     rw [List.mem_singleton.1 hh] at hj
     obtain ⟨rfl, rfl⟩ := Hp.one_some hj
     exact hbk
   refine zE (v := .slice (some ⟨k, 0, none⟩) (n + m) cap'') (w' := w') ?_ (hK _ [Hp.one k (.cells cur' e (0, 0))] w' (.inl ⟨hl', .inr ⟨k, cap'', cur', rfl, rfl, g1, g2, g3, g4⟩⟩) hH)
   simp only [hx, hy, builtin, List.map_toArray, List.map_cons, List.map_nil, Sem.run_bind, hr, Result.andThen_ok, Sem.run_pure]
end ops
end Go.Q
namespace Go.Q
theorem OwnL.app {α : Type} {f : α → Value} {e : TypeId} {v : Value} {a b : List α} {hs : List Hp} (h : OwnL e 1 v (a.length + b.length) (a.map f ++ b.map f) hs) : OwnL e 1 v (a ++ b).length ((a ++ b).map f) hs := by rw [List.length_append, List.map_append]; exact h
theorem OwnL.appF {α : Type} {f : α → List Value} {sz : Nat} {e : TypeId} {v : Value} {a b : List α} {hs : List Hp} (h : OwnL e sz v (a.length + b.length) (a.flatMap f ++ b.flatMap f) hs) : OwnL e sz v (a ++ b).length ((a ++ b).flatMap f) hs := by rw [List.length_append, List.flatMap_append]; exact h
end Go.Q
namespace Go.Q
structure LEnt where
 gsn : Int
 at_ : Int
 data : Bs
deriving DecidableEq
def enC (e : LEnt) : List Value := [iV e.gsn, iV e.at_, sV e.data]
theorem enC_len (e : LEnt) : (enC e).length = 3 := rfl
theorem one_enC (l : List LEnt) : ∀ u ∈ l.flatMap enC, u.oneCell' = true := one_flat (fun p u hu => by
 simp only [enC, List.mem_cons, List.not_mem_nil, or_false] at hu
 rcases hu with rfl | rfl | rfl <;> rfl) l
structure StmS where
 seq : Int
 ep : Int
 hcut : Int
 st : Int
 mrk : Int
 l : List LEnt
 tail : Int
 flushed : Int
 res : Int
 cut : Bool
 err : Int
def StmS.hd (v : StmS) : Hd := ⟨v.seq, v.ep, v.hcut, v.st, v.mrk⟩
def lastV (v : StmS) : Int := match v.l[v.l.length - 1]? with
 | none => v.mrk
 | some e => max v.mrk e.gsn
theorem last_none {v : StmS} (h : v.l.length = 0) : lastV v = v.mrk := by
 unfold lastV
 rw [List.getElem?_eq_none (by omega)]
theorem last_some {v : StmS} {e : LEnt} (h : v.l[v.l.length - 1]? = some e) : lastV v = max v.mrk e.gsn := by
 unfold lastV
 rw [h]
def freeV (n : Int) (v : StmS) : Int := n * 64 - (v.tail - v.st) - v.res
def readyE (v : StmS) : Int := if v.err ≠ 0 then v.err else if v.cut = false then 12 else 0
def mayL (v : StmS) (g : Int) (size : Int) : Int := if readyE v ≠ 0 then readyE v else if g ≤ lastV v ∨ 4611686018427387903 < g ∨ 200 < size then 1 else 0
def layS (v : StmS) (g : Int) (s : Bs) : StmS := { v with l := v.l ++ [⟨g, v.tail, s⟩], tail := v.tail + (25 + (s.length : Int)) }
def apE (n : Int) (v : StmS) (g : Int) (s : Bs) : Int := if mayL v g (s.length : Int) ≠ 0 then mayL v g (s.length : Int) else if freeV n v < 25 + (s.length : Int) then 5 else 0
def apS (n : Int) (v : StmS) (g : Int) (s : Bs) : StmS := if apE n v g s = 0 then layS v g s else v
/- entries in their order -/
def RisesE (l : List LEnt) : Prop := l.Pairwise fun a b => a.gsn < b.gsn
instance (l : List LEnt) : Decidable (RisesE l) := inferInstanceAs (Decidable (l.Pairwise fun a b => a.gsn < b.gsn))
def cmpI (a b : Int) : Int := if a < b then -1 else if b < a then 1 else 0
theorem cmpI_neg {a b : Int} : cmpI a b < 0 ↔ a < b := by
 unfold cmpI
 split
 ·
  constructor
  · intro _; assumption
  · intro _; decide
 ·
  split
  ·
   constructor
   · intro h; exact absurd h (by decide)
   · intro h; omega
  ·
   constructor
   · intro h; exact absurd h (by decide)
   · intro h; omega
theorem cmpI_zero {a b : Int} : cmpI a b = 0 ↔ a = b := by
 unfold cmpI
 split
 ·
  constructor
  · intro h; exact absurd h (by decide)
  · intro h; omega
 ·
  split
  ·
   constructor
   · intro h; exact absurd h (by decide)
   · intro h; omega
  ·
   constructor
   · intro _; omega
   · intro _; rfl
def posE (l : List LEnt) (g : Int) : Int := ((l.filter fun e => decide (e.gsn < g)).length : Int)
def hasE (l : List LEnt) (g : Int) : Bool := l.any fun e => decide (e.gsn = g)
theorem posE_le (l : List LEnt) (g : Int) : 0 ≤ posE l g ∧ posE l g ≤ l.length := by
 unfold posE
 have := List.length_filter_le (fun e : LEnt => decide (e.gsn < g)) l
 omega
theorem posE_at {l : List LEnt} {g : Int} {i : Nat} (hi : i ≤ l.length) (hlo : ∀ a ∈ l.take i, a.gsn < g) (hhi : ∀ a ∈ l.drop i, ¬ a.gsn < g) : posE l g = i := by
 unfold posE
 have e : l.filter (fun c => decide (c.gsn < g)) = l.take i := by
  have h1 := List.filter_eq_self.2 (fun a ha => decide_eq_true (hlo a ha))
  have h2 := List.filter_eq_nil_iff.2 (fun a ha => by simpa using hhi a ha : ∀ a ∈ l.drop i, ¬ (decide (a.gsn < g) = true))
  calc l.filter (fun c => decide (c.gsn < g)) = (l.take i ++ l.drop i).filter (fun c => decide (c.gsn < g)) := by rw [List.take_append_drop]
   _ = _ := by rw [List.filter_append, h1, h2, List.append_nil]
 rw [e, List.length_take, Nat.min_eq_left hi]
theorem lo_stepE {l : List LEnt} {g : Int} {m : Nat} {a : LEnt} (hs : RisesE l) (hx : l[m]? = some a) (h : a.gsn < g) : ∀ b ∈ l.take (m + 1), b.gsn < g := by
 rw [zO hx]
 intro b hb
 rcases List.mem_append.1 hb with e | e
 ·
  obtain ⟨j, hj⟩ := List.mem_iff_getElem?.1 e
  rw [List.getElem?_take] at hj
  split at hj
  ·
   obtain ⟨h1, h2⟩ := List.getElem?_eq_some_iff.1 hj
   obtain ⟨h3, h4⟩ := List.getElem?_eq_some_iff.1 hx
   have := List.pairwise_iff_getElem.1 hs j m h1 h3 (by assumption)
   rw [h2, h4] at this
   omega
  · cases hj
 · rw [List.mem_singleton.1 e]; exact h
theorem hi_stepE {l : List LEnt} {g : Int} {m : Nat} {a : LEnt} (hs : RisesE l) (hx : l[m]? = some a) (h : ¬ a.gsn < g) : ∀ b ∈ l.drop m, ¬ b.gsn < g := by
 intro b hb hlt
 obtain ⟨j, hj⟩ := List.mem_iff_getElem?.1 hb
 rw [List.getElem?_drop] at hj
 obtain ⟨h1, h2⟩ := List.getElem?_eq_some_iff.1 hj
 obtain ⟨h3, h4⟩ := List.getElem?_eq_some_iff.1 hx
 rcases Nat.eq_zero_or_pos j with e | e
 ·
  subst e
  rw [Nat.add_zero, hx] at hj; cases hj; exact h hlt
 ·
  have := List.pairwise_iff_getElem.1 hs m (m + j) h3 h1 (by omega)
  rw [h2, h4] at this
  omega
theorem hasE_yes {l : List LEnt} {g : Int} {i : Nat} {a : LEnt} (hx : l[i]? = some a) (h : a.gsn = g) : hasE l g = true := by
 unfold hasE; exact List.any_eq_true.2 ⟨a, List.mem_of_getElem? hx, decide_eq_true h⟩
theorem hasE_no {l : List LEnt} {g : Int} {i : Nat} (hs : RisesE l) (hlo : ∀ a ∈ l.take i, a.gsn < g) (hhi : ∀ a ∈ l.drop i, ¬ a.gsn < g) (h : ∀ a, l[i]? = some a → a.gsn ≠ g) : hasE l g = false := by
 unfold hasE
 rw [List.any_eq_false]
 intro b hb
 rw [decide_eq_true_iff]
 intro e
 rw [← List.take_append_drop i l] at hb
 rcases List.mem_append.1 hb with q | q
 · have := hlo b q; omega
 ·
  obtain ⟨j, hj⟩ := List.mem_iff_getElem?.1 q
  rw [List.getElem?_drop] at hj
  rcases Nat.eq_zero_or_pos j with z | z
  · subst z; rw [Nat.add_zero] at hj; exact h b hj e
  ·
   obtain ⟨h1, h2⟩ := List.getElem?_eq_some_iff.1 hj
   have h3 : i < l.length := by omega
   have h4 := List.pairwise_iff_getElem.1 hs i (i + j) h3 h1 (by omega)
   rw [h2, e] at h4
   exact hhi l[i] (by rw [List.drop_eq_getElem_cons h3]; exact List.mem_cons_self ..) h4
/-- entries that lie one behind the other -/
def LaidE : Int → List LEnt → Int → Prop
 | a, [], t => t = a
 | a, e :: l, t => e.at_ = a ∧ LaidE (a + (25 + (e.data.length : Int))) l t
theorem LaidE.snoc : ∀ {l : List LEnt} {a t : Int} (_ : LaidE a l t) (g : Int) (s : Bs), LaidE a (l ++ [⟨g, t, s⟩]) (t + (25 + (s.length : Int)))
 | [], a, t, h, g, s => by
  have e : t = a := h
  exact ⟨e, by rw [e]; rfl⟩
 | e :: l, a, t, h, g, s => ⟨h.1, LaidE.snoc h.2 g s⟩
theorem LaidE.le : ∀ {l : List LEnt} {a t : Int} (_ : LaidE a l t), a + 25 * (l.length : Int) ≤ t
 | [], a, t, h => by have e : t = a := h; simp; omega
 | e :: l, a, t, h => by
  have := LaidE.le h.2
  simp only [List.length_cons]; omega
theorem LaidE.at : ∀ {l : List LEnt} {a t : Int} (_ : LaidE a l t) {n : Nat} {x : LEnt} (_ : l[n]? = some x), LaidE a (l.take n) x.at_ ∧ LaidE x.at_ (l.drop n) t
 | [], _, _, _, n, x, hx => by simp at hx
 | e :: l, a, t, h, 0, x, hx => by
  have hx : e = x := by simpa using hx
  subst hx
  exact ⟨h.1, by rw [h.1]; exact h⟩
 | e :: l, a, t, h, n + 1, x, hx => by
  have := LaidE.at h.2 (n := n) (x := x) (by simpa using hx)
  exact ⟨⟨h.1, this.1⟩, this.2⟩
/-- a log that can stand in a ring of so many sectors -/
structure StmOk (n : Int) (v : StmS) : Prop where
 num : 1 ≤ n ∧ n ≤ 4094
 mrk : 0 ≤ v.mrk ∧ v.mrk ≤ 4611686018427387903
 st : 0 ≤ v.st ∧ v.st ≤ 4611686018427387903
 cut : 0 ≤ v.hcut ∧ v.hcut ≤ 4611686018427387903
 ep : 0 ≤ v.ep ∧ v.ep ≤ 2147483647
 seq : 0 ≤ v.seq ∧ v.seq ≤ 4611686018427387903
 tail : v.tail ≤ v.st + n * 64
 res : 0 ≤ v.res ∧ v.res ≤ n * 64 - (v.tail - v.st)
 lay : LaidE v.st v.l v.tail
 gsn : ∀ e ∈ v.l, 0 ≤ e.gsn ∧ e.gsn ≤ 4611686018427387903
 dat : ∀ e ∈ v.l, e.data.length ≤ 200
 rise : RisesE v.l
 fl : 0 ≤ v.flushed ∧ v.flushed ≤ v.l.length
theorem StmOk.le {n : Int} {v : StmS} (h : StmOk n v) : v.st ≤ v.tail ∧ v.l.length ≤ 100000 := by
 have := h.lay.le
 have := h.tail
 have := h.num
 omega
theorem last_le {n : Int} {v : StmS} (h : StmOk n v) : 0 ≤ lastV v ∧ lastV v ≤ 4611686018427387903 ∧ v.mrk ≤ lastV v := by
 have hm := h.mrk
 unfold lastV
 split
 · omega
 ·
  rename_i e he
  have := h.gsn e (List.mem_of_getElem? he)
  omega
end Go.Q
namespace Go.Q
end Go.Q
namespace Go.Q
theorem rd_on {p : Pw} (ho : p.off = false) {la : List Bs} {lo : List (Int × Bs)} {n : Int} (hn : inS n la.length) : readS p la lo n = nowAt la lo n.toNat ∧ readE p la n = 0 := by
 unfold readS readE nowAt
 rw [ho, if_pos hn, if_pos hn]
 refine ⟨?_, rfl⟩
 rw [if_neg (by decide), show ((n.toNat : Nat) : Int) = n from by obtain ⟨h0, h1⟩ := hn; omega]
 cases getB lo n <;> rfl
/-- bytes set piece by piece, whatever the power -/
def asetD : List Pc → Dv → Bs → Int × Dv
 | [], d, _ => (0, d)
 | p :: ps, d, all => if d.wrE p.sec (putA1 d.la d.lo p all) = 0 then asetD ps (d.wr p.sec (putA1 d.la d.lo p all)) (all.drop (p.upto - p.frm).toNat) else (d.wrE p.sec (putA1 d.la d.lo p all), d.wr p.sec (putA1 d.la d.lo p all))
def mayA (n at_ size : Int) : Prop := 0 ≤ at_ ∧ at_ ≤ 4611686018427387904 ∧ 0 ≤ size ∧ size ≤ n * 64
instance (n at_ size : Int) : Decidable (mayA n at_ size) := inferInstanceAs (Decidable (_ ∧ _))
def ringP (fr n at_ size : Int) : List Pc := allP fr (n * 64) (at_ % (n * 64)) size
def setA (d : Dv) (fr n at_ : Int) (all : Bs) : Int × Dv := if mayA n at_ (all.length : Int) then (if d.p.off = true then (6, d) else asetD (ringP fr n at_ (all.length : Int)) d all) else (1, d)
section
variable {ps : List Pc} {j : Nat} {x : Pc} {d dc : Dv} {all rest : Bs}
theorem aset_go (hx : ps[j]? = some x) (hst : asetD ps d all = asetD (ps.drop j) dc rest) (h0 : dc.wrE x.sec (putA1 dc.la dc.lo x rest) = 0) : asetD ps d all = asetD (ps.drop (j + 1)) (dc.wr x.sec (putA1 dc.la dc.lo x rest)) (rest.drop (x.upto - x.frm).toNat) := by
 rw [hst, drop_of hx, asetD, if_pos h0]
theorem aset_stop (hx : ps[j]? = some x) (hst : asetD ps d all = asetD (ps.drop j) dc rest) (h0 : dc.wrE x.sec (putA1 dc.la dc.lo x rest) ≠ 0) : asetD ps d all = (dc.wrE x.sec (putA1 dc.la dc.lo x rest), dc.wr x.sec (putA1 dc.la dc.lo x rest)) := by
 rw [hst, drop_of hx, asetD, if_neg h0]
theorem aset_end (hst : asetD ps d all = asetD (ps.drop j) dc rest) (hj : ps.length ≤ j) : asetD ps d all = (0, dc) := by
 rw [hst, List.drop_of_length_le hj, asetD]
end
theorem few_aset : ∀ (ps : List Pc) (d : Dv) (all : Bs) {k : Nat}, Few d.p k → Few (asetD ps d all).2.p (k + ps.length)
 | [], _, _, _, h => h
 | p :: ps, d, all, k, h => by
  have h1 : Few (d.wr p.sec (putA1 d.la d.lo p all)).p (k + 1) := h.use
  rw [asetD]
  split
  · exact (few_aset ps _ _ h1).mono (by rw [List.length_cons]; omega)
  · exact h1.mono (by rw [List.length_cons]; omega)
theorem aset_la : ∀ (ps : List Pc) (d : Dv) (all : Bs), (asetD ps d all).2.la = d.la
 | [], _, _ => rfl
 | p :: ps, d, all => by
  rw [asetD]
  split
  · rw [aset_la ps]; rfl
  · rfl
theorem aset_lo : ∀ (ps : List Pc) (d : Dv) (all : Bs), LoOk d.lo d.la.length → LoOk (asetD ps d all).2.lo d.la.length
 | [], _, _, h => h
 | p :: ps, d, all, h => by
  have h1 : LoOk (d.wr p.sec (putA1 d.la d.lo p all)).lo d.la.length := h.write _ _ _
  rw [asetD]
  split
  · exact aset_lo ps _ _ h1
  · exact h1
/-- how many pieces there are -/
theorem pieces_al {fr n : Int} (hn : 0 < n) : ∀ (f : Nat) (at_ size : Int), 0 ≤ at_ → at_ % 64 = 0 → ((piecesS fr (n * 64) f at_ size).length : Int) * 64 ≤ max size 0 + 63
 | 0, _, _, _, _ => by simp only [piecesS, List.length_nil]; omega
 | f + 1, at_, size, h0, ha => by
  rw [piecesS]
  split
  · simp only [List.length_nil]; omega
  ·
   obtain ⟨d1, d2, d3, d4, d5⟩ := piece1_d (fr := fr) h0 (size := size) (by omega)
   have e : (piece1 fr at_ size).upto - (piece1 fr at_ size).frm = min size 64 := by
    unfold piece1; simp only [ha]; omega
   simp only [List.length_cons]
   rw [e]
   by_cases hs : size ≤ 64
   ·
    have hz : piecesS fr (n * 64) f ((at_ + min size 64) % (n * 64)) (size - min size 64) = [] := by
     cases f with
     | zero => rfl
     | succ f => rw [piecesS, if_pos (by omega)]
    rw [hz]; simp only [List.length_nil]; omega
   ·
    have hm : (at_ + min size 64) % (n * 64) % 64 = 0 := by
     rw [Int.emod_emod_of_dvd _ ⟨n, by omega⟩]; omega
    have := pieces_al (fr := fr) hn f ((at_ + min size 64) % (n * 64)) (size - min size 64) (Int.emod_nonneg _ (by omega)) hm
    omega
theorem ring_count {fr n at_ size : Int} (hn : 1 ≤ n) (hs : size ≤ n * 64) : (ringP fr n at_ size).length ≤ n.toNat + 1 := by
 unfold ringP allP
 have h0 : 0 ≤ at_ % (n * 64) := Int.emod_nonneg _ (by omega)
 cases hz : size.toNat with
 | zero => simp [piecesS]
 | succ f =>
  rw [piecesS, if_neg (by omega)]
  obtain ⟨d1, d2, d3, d4, d5⟩ := piece1_d (fr := fr) h0 (size := size) (by omega)
  simp only [List.length_cons]
  generalize hd : (piece1 fr (at_ % (n * 64)) size).upto - (piece1 fr (at_ % (n * 64)) size).frm = dd at *
  have e : dd = min size (64 - at_ % (n * 64) % 64) := by
   rw [← hd]; unfold piece1; simp only; omega
  by_cases hq : size - dd ≤ 0
  ·
   have : piecesS fr (n * 64) f ((at_ % (n * 64) + dd) % (n * 64)) (size - dd) = [] := by
    cases f with
    | zero => rfl
    | succ f => rw [piecesS, if_pos hq]
   rw [this]; simp only [List.length_nil]; omega
  ·
   have hm : (at_ % (n * 64) + dd) % (n * 64) % 64 = 0 := by
    rw [Int.emod_emod_of_dvd _ ⟨n, by omega⟩]; omega
   have := pieces_al (fr := fr) (n := n) (by omega) f ((at_ % (n * 64) + dd) % (n * 64)) (size - dd) (Int.emod_nonneg _ (by omega)) hm
   omega
theorem few_setA {d : Dv} {fr n at_ : Int} {all : Bs} {k : Nat} (h : Few d.p k) (hn : 1 ≤ n) : Few (setA d fr n at_ all).2.p (k + (n.toNat + 1)) := by
 unfold setA
 split
 ·
  rename_i hm
  split
  · exact h.mono (by omega)
  · exact (few_aset _ _ _ h).mono (by have := ring_count (fr := fr) (at_ := at_) hn hm.2.2.2; omega)
 · exact h.mono (by omega)
theorem setA_la {d : Dv} {fr n at_ : Int} {all : Bs} : (setA d fr n at_ all).2.la = d.la := by
 unfold setA
 split
 ·
  split
  · rfl
  · exact aset_la _ _ _
 · rfl
theorem setA_lo {d : Dv} {fr n at_ : Int} {all : Bs} (h : LoOk d.lo d.la.length) : LoOk (setA d fr n at_ all).2.lo d.la.length := by
 unfold setA
 split
 ·
  split
  · exact h
  · exact aset_lo _ _ _ h
 · exact h
/-- Sync, told without a sorting -/
def Dv.syN (d : Dv) : Dv := ⟨useS d.p, if useB d.p = true then nowS d.la d.lo else d.la, syncO d.p d.lo⟩
theorem sy_eq {d : Dv} (h : LoOk d.lo d.la.length) : d.sy = d.syN := by
 unfold Dv.sy Dv.syN
 congr 1
 unfold syncA
 split
 · exact now_sync h
 · rfl
/-- a head, saved, whatever the power -/
def svD (d : Dv) (x : Int) (h : Hd) : Int × Hd × Dv :=
 if ¬ svOk h then (1, hdZ, d) else if thE d.p d.la.length x ≠ 0 then (thE d.p d.la.length x, hdZ, d)
 else if d.wrE (svN x h) (hdL (hdUp h)) ≠ 0 then (d.wrE (svN x h) (hdL (hdUp h)), hdZ, d.wr (svN x h) (hdL (hdUp h)))
 else if (d.wr (svN x h) (hdL (hdUp h))).syE ≠ 0 then ((d.wr (svN x h) (hdL (hdUp h))).syE, hdZ, (d.wr (svN x h) (hdL (hdUp h))).syN)
 else (0, hdUp h, (d.wr (svN x h) (hdL (hdUp h))).syN)
theorem few_svD {d : Dv} {x : Int} {h : Hd} {k : Nat} (hf : Few d.p k) : Few (svD d x h).2.2.p (k + 2) := by
 have h1 : Few (d.wr (svN x h) (hdL (hdUp h))).p (k + 1) := hf.use
 have h2 : Few (d.wr (svN x h) (hdL (hdUp h))).syN.p (k + 2) := h1.use
 unfold svD
 split
 · exact hf.mono (by omega)
 split
 · exact hf.mono (by omega)
 split
 · exact h1.mono (by omega)
 split
 · exact h2
 · exact h2
theorem syN_len (d : Dv) : d.syN.la.length = d.la.length := by
 show (if useB d.p = true then nowS d.la d.lo else d.la).length = _
 split
 · exact now_len _ _
 · rfl
theorem svD_len {d : Dv} {x : Int} {h : Hd} : (svD d x h).2.2.la.length = d.la.length := by
 have h2 : (d.wr (svN x h) (hdL (hdUp h))).syN.la.length = d.la.length := by rw [syN_len]; rfl
 unfold svD
 split
 · rfl
 split
 · rfl
 split
 · rfl
 split
 · exact h2
 · exact h2
theorem syN_lo {d : Dv} (h : LoOk d.lo d.la.length) : LoOk d.syN.lo d.syN.la.length := by
 rw [syN_len]; exact h.sync _
theorem svD_lo {d : Dv} {x : Int} {h : Hd} (hl : LoOk d.lo d.la.length) : LoOk (svD d x h).2.2.lo (svD d x h).2.2.la.length := by
 have h1 : LoOk (d.wr (svN x h) (hdL (hdUp h))).lo (d.wr (svN x h) (hdL (hdUp h))).la.length := hl.write _ _ _
 unfold svD
 split
 · exact hl
 split
 · exact hl
 split
 · exact h1
 split
 · exact syN_lo h1
 · exact syN_lo h1
/-- all sectors, written as 00 -/
def fmtG (m : Nat) : Grp := (List.range m).map fun i : Nat => ((i : Int), ([] : Bs))
theorem fmtG_at {m i : Nat} (h : i < m) : (fmtG m)[i]? = some ((i : Int), []) := by
 unfold fmtG
 rw [List.getElem?_map, List.getElem?_range h]; rfl
theorem fmtG_len (m : Nat) : (fmtG m).length = m := by unfold fmtG; simp
section
variable {g : Grp} {i : Nat} {q : Int × Bs} {d dc : Dv}
theorem wrs_go (hx : g[i]? = some q) (hst : wrs d g = wrs dc (g.drop i)) (h0 : dc.wrE q.1 q.2 = 0) : wrs d g = wrs (dc.wr q.1 q.2) (g.drop (i + 1)) := by
 rw [hst, drop_of hx]
 obtain ⟨n, s⟩ := q
 rw [wrs, if_pos h0]
theorem wrs_stop (hx : g[i]? = some q) (hst : wrs d g = wrs dc (g.drop i)) (h0 : dc.wrE q.1 q.2 ≠ 0) : wrs d g = (dc.wrE q.1 q.2, dc.wr q.1 q.2) := by
 rw [hst, drop_of hx]
 obtain ⟨n, s⟩ := q
 rw [wrs, if_neg h0]
theorem wrs_last (hst : wrs d g = wrs dc (g.drop i)) (hi : g.length ≤ i) : wrs d g = (0, dc) := by
 rw [hst, List.drop_of_length_le hi, wrs]
end
def fmS (d : Dv) : Int × Hd × Dv := if (wrs d (fmtG d.la.length)).1 ≠ 0 then ((wrs d (fmtG d.la.length)).1, hdZ, (wrs d (fmtG d.la.length)).2) else svD (wrs d (fmtG d.la.length)).2 0 ⟨0, 1, 0, 0, 0⟩
/- what is done to a log -/
def stays (v : StmS) (e : Int) : StmS := if e = 6 then { v with err := 6 } else v
def StmS.put (v : StmS) (h : Hd) : StmS := { v with seq := h.seq, ep := h.ep, hcut := h.cut, st := h.st, mrk := h.mrk }
def saveS (d : Dv) (v : StmS) (h : Hd) : Int × Dv × StmS := ((svD d 0 h).1, (svD d 0 h).2.2, stays (if (svD d 0 h).1 = 0 then v.put (svD d 0 h).2.1 else v) (svD d 0 h).1)
def frOf (ep : Int) (e : LEnt) : Fr := ⟨ep, e.at_, e.gsn, e.data⟩
def layB (ep : Int) (l : List LEnt) : List Bs := l.map fun e => makeS (frOf ep e)
def fl1 (d : Dv) (v : StmS) (a : Int × Dv) : Int × Dv × StmS :=
 if a.1 ≠ 0 then (a.1, a.2, stays v a.1) else if a.2.syE ≠ 0 then (a.2.syE, a.2.syN, stays v a.2.syE) else (0, a.2.syN, { v with flushed := v.l.length })
def flL (n : Int) (d : Dv) (v : StmS) : Int × Dv × StmS := match v.l[v.flushed.toNat]? with
 | none => (0, d, v)
 | some x => fl1 d v (setA d 2 n x.at_ (layB v.ep (v.l.drop v.flushed.toNat)).flatten)
def fl2 (mark : Int) (r : Int × Dv × StmS) : Int × Dv × StmS := if r.1 ≠ 0 then r else if mark = r.2.2.mrk then (0, r.2.1, r.2.2) else saveS r.2.1 r.2.2 { r.2.2.hd with mrk := mark }
def flS (n : Int) (d : Dv) (v : StmS) (mark : Int) : Int × Dv × StmS :=
 if readyE v ≠ 0 then (readyE v, d, v) else if mark < lastV v ∨ 4611686018427387903 < mark then (1, d, v) else fl2 mark (flL n d v)
def fmV (h : Hd) : StmS := ⟨h.seq, h.ep, h.cut, h.st, h.mrk, [], 0, 0, 0, true, 0⟩
/- a log, as it is opened -/
def entF (f : Fr) : LEnt := ⟨f.gsn, f.pl, f.data⟩
def ringB (d : Dv) (n at_ : Int) : Bs := getP d.la d.lo (ringP 2 n at_ (n * 64))
def opC (d : Dv) (n : Int) : List Fr × Int := chainS (ldH d.p d.la 0).ep (ldH d.p d.la 0).cut ((ringB d n (ldH d.p d.la 0).st).length + 1) (ringB d n (ldH d.p d.la 0).st) (ldH d.p d.la 0).st (-1)
def opE (d : Dv) (n : Int) : Int := if ldE d.p d.la 0 ≠ 0 then ldE d.p d.la 0 else if (ldH d.p d.la 0).ep = 0 ∨ (ldH d.p d.la 0).cut < (ldH d.p d.la 0).st ∨ (opC d n).2 < (ldH d.p d.la 0).cut then 9 else 0
def opS (d : Dv) (n : Int) : StmS := ⟨(ldH d.p d.la 0).seq, (ldH d.p d.la 0).ep, (ldH d.p d.la 0).cut, (ldH d.p d.la 0).st, (ldH d.p d.la 0).mrk, (opC d n).1.map entF, (opC d n).2, ((opC d n).1.length : Int), 0, false, 0⟩
end Go.Q
namespace Go.Q
theorem wr_zero_on {d : Dv} {n : Int} {s : Bs} (h : d.wrE n s = 0) : (d.wr n s).p.off = false := by
 unfold Dv.wrE writeE at h
 split at h
 · rename_i hb; exact useB_on hb
 · cases h
section
variable {d : Dv} {x : Int} {h : Hd}
theorem svD_bad (h1 : ¬ svOk h) : svD d x h = (1, hdZ, d) := if_pos h1
theorem svD_th (h1 : svOk h) (h2 : thE d.p d.la.length x ≠ 0) : svD d x h = (thE d.p d.la.length x, hdZ, d) := by
 unfold svD; rw [if_neg (fun g => g h1), if_pos h2]
theorem svD_w (h1 : svOk h) (h2 : thE d.p d.la.length x = 0) (h3 : d.wrE (svN x h) (hdL (hdUp h)) ≠ 0) : svD d x h = (d.wrE (svN x h) (hdL (hdUp h)), hdZ, d.wr (svN x h) (hdL (hdUp h))) := by
 unfold svD; rw [if_neg (fun g => g h1), if_neg (fun g => g h2), if_pos h3]
theorem svD_s (h1 : svOk h) (h2 : thE d.p d.la.length x = 0) (h3 : d.wrE (svN x h) (hdL (hdUp h)) = 0) (h4 : (d.wr (svN x h) (hdL (hdUp h))).syE ≠ 0) : svD d x h = ((d.wr (svN x h) (hdL (hdUp h))).syE, hdZ, (d.wr (svN x h) (hdL (hdUp h))).syN) := by
 unfold svD; rw [if_neg (fun g => g h1), if_neg (fun g => g h2), if_neg (fun g => g h3), if_pos h4]
theorem svD_ok (h1 : svOk h) (h2 : thE d.p d.la.length x = 0) (h3 : d.wrE (svN x h) (hdL (hdUp h)) = 0) (h4 : (d.wr (svN x h) (hdL (hdUp h))).syE = 0) : svD d x h = (0, hdUp h, (d.wr (svN x h) (hdL (hdUp h))).syN) := by
 unfold svD; rw [if_neg (fun g => g h1), if_neg (fun g => g h2), if_neg (fun g => g h3), if_neg (fun g => g h4)]
end
end Go.Q
namespace Go.Q
theorem mayL_zero {v : StmS} {g size : Int} (h : mayL v g size = 0) : readyE v = 0 ∧ lastV v < g ∧ g ≤ 4611686018427387903 ∧ size ≤ 200 := by
 unfold mayL at h
 split at h
 · rename_i h1; exact absurd h h1
 ·
  rename_i h1
  split at h
  · cases h
  · exact ⟨Classical.not_not.1 h1, by omega, by omega, by omega⟩
end Go.Q
namespace Go.Q
theorem setA_lk {d : Dv} {fr n at_ : Int} {all : Bs} (h : LoOk d.lo d.la.length) : LoOk (setA d fr n at_ all).2.lo (setA d fr n at_ all).2.la.length := by rw [setA_la]; exact setA_lo h
theorem saveS_len {d : Dv} {v : StmS} {h : Hd} : (saveS d v h).2.1.la.length = d.la.length := svD_len
theorem saveS_lo {d : Dv} {v : StmS} {h : Hd} (hl : LoOk d.lo d.la.length) : LoOk (saveS d v h).2.1.lo (saveS d v h).2.1.la.length := svD_lo hl
theorem dvwr_len {d : Dv} {n : Int} {s : Bs} : (d.wr n s).la.length = d.la.length := rfl
theorem flL_len {n : Int} {d : Dv} {v : StmS} : (flL n d v).2.1.la.length = d.la.length := by
 unfold flL
 split
 · rfl
 ·
  unfold fl1
  split
  · rw [setA_la]
  ·
   split
   · show (Dv.syN _).la.length = _; rw [syN_len, setA_la]
   · show (Dv.syN _).la.length = _; rw [syN_len, setA_la]
theorem layB_snoc (ep : Int) (l : List LEnt) (x : LEnt) : layB ep (l ++ [x]) = layB ep l ++ [makeS (frOf ep x)] := by unfold layB; simp
theorem layB_len (ep : Int) (l : List LEnt) : (layB ep l).length = l.length := by unfold layB; simp
theorem make_le (f : Fr) : (makeS f).length ≤ 225 := by
 cases h : rightS f with
 | true => rw [makeS_len h]; have := (rightS_of h).2.2.2.2.2.2; omega
 | false => rw [makeS_no h]; simp
section
variable {n mark : Int} {d : Dv} {v : StmS} {a : Int × Dv} {r : Int × Dv × StmS}
theorem flS_go (h1 : readyE v = 0) (h2 : ¬ (mark < lastV v ∨ 4611686018427387903 < mark)) : flS n d v mark = fl2 mark (flL n d v) := by
 unfold flS; rw [if_neg (fun g => g h1), if_neg h2]
theorem flL_none (h : (v.l.length : Int) ≤ v.flushed) : flL n d v = (0, d, v) := by
 unfold flL; rw [List.getElem?_eq_none (by omega)]
theorem flL_some {x : LEnt} (h : v.l[v.flushed.toNat]? = some x) : flL n d v = fl1 d v (setA d 2 n x.at_ (layB v.ep (v.l.drop v.flushed.toNat)).flatten) := by
 unfold flL; rw [h]
theorem fl1_set (h : a.1 ≠ 0) : fl1 d v a = (a.1, a.2, stays v a.1) := if_pos h
theorem fl1_sy (h0 : a.1 = 0) (h : a.2.syE ≠ 0) : fl1 d v a = (a.2.syE, a.2.syN, stays v a.2.syE) := by
 unfold fl1; rw [if_neg (fun g => g h0), if_pos h]
theorem fl1_ok (h0 : a.1 = 0) (h : a.2.syE = 0) : fl1 d v a = (0, a.2.syN, { v with flushed := v.l.length }) := by
 unfold fl1; rw [if_neg (fun g => g h0), if_neg (fun g => g h)]
theorem fl2_err (h : r.1 ≠ 0) : fl2 mark r = r := if_pos h
theorem fl2_same (h0 : r.1 = 0) (h : mark = r.2.2.mrk) : fl2 mark r = (0, r.2.1, r.2.2) := by
 unfold fl2; rw [if_neg (fun g => g h0), if_pos h]
theorem fl2_save (h0 : r.1 = 0) (h : ¬ mark = r.2.2.mrk) : fl2 mark r = saveS r.2.1 r.2.2 { r.2.2.hd with mrk := mark } := by
 unfold fl2; rw [if_neg (fun g => g h0), if_neg h]
end
end Go.Q
namespace Go.Q
theorem step_R {i : Int} {best : Hd × Bool} {s : Bs} (hb : best.2 = true → hdR best.1 = true) (h : (ldStep i best (hdP s)).2 = true) : hdR (ldStep i best (hdP s)).1 = true := by
 unfold ldStep at h ⊢
 split
 · rename_i g; exact (hdP_true g.1).1
 · rename_i g; rw [if_neg g] at h; exact hb h
theorem ldP_R {a b : Bs} (h : (ldP a b).2 = 0) : hdR (ldP a b).1 = true := by
 unfold ldP at h ⊢
 simp only at h ⊢
 split
 · rename_i g; exact step_R (fun g2 => step_R (fun g3 => by cases g3) g2) g
 ·
  rename_i g
  rw [if_neg g] at h
  split at h <;> cases h
theorem ld_R {p : Pw} {la : List Bs} {x : Int} (h : ldE p la x = 0) : hdR (ldH p la x) = true := by
 unfold ldE at h
 unfold ldH
 split at h
 ·
  rename_i g
  split at h
  · rename_i ho; rw [if_pos ⟨g, ho⟩]; exact ldP_R h
  · cases h
 · cases h
section
variable {d : Dv} {n : Int}
theorem opE_ld (h : ldE d.p d.la 0 ≠ 0) : opE d n = ldE d.p d.la 0 := if_pos h
theorem opE_bad (h : ldE d.p d.la 0 = 0) (h2 : (ldH d.p d.la 0).ep = 0 ∨ (ldH d.p d.la 0).cut < (ldH d.p d.la 0).st ∨ (opC d n).2 < (ldH d.p d.la 0).cut) : opE d n = 9 := by
 unfold opE; rw [if_neg (fun g => g h), if_pos h2]
theorem opE_ok (h : ldE d.p d.la 0 = 0) (h2 : ¬ ((ldH d.p d.la 0).ep = 0 ∨ (ldH d.p d.la 0).cut < (ldH d.p d.la 0).st ∨ (opC d n).2 < (ldH d.p d.la 0).cut)) : opE d n = 0 := by
 unfold opE; rw [if_neg (fun g => g h), if_neg h2]
end
theorem ent_snoc (l : List Fr) (x : Fr) : (l ++ [x]).map entF = l.map entF ++ [entF x] := by simp
theorem ringB_len {d : Dv} {n at_ : Int} (h64 : Full64 d.la) (hlk : LoOk d.lo d.la.length) (hn : 1 ≤ n) (hln : (d.la.length : Int) = n + 2) : (ringB d n at_).length = (n * 64).toNat := by
 unfold ringB ringP
 exact getP_len h64 hlk (by omega) hn (by omega) ⟨Int.emod_nonneg _ (by omega), Int.emod_lt_of_pos _ (by omega)⟩ (by omega)
/-- frames are as many as there is room for -/
theorem chain_count (ep cut : Int) : ∀ (n : Nat) (s : Bs) (pl ab : Int), 25 * (chainS ep cut n s pl ab).1.length ≤ s.length ∧ (chainS ep cut n s pl ab).2 ≤ pl + s.length ∧ pl ≤ (chainS ep cut n s pl ab).2
 | 0, s, pl, ab => by simp only [chainS, List.length_nil]; omega
 | n + 1, s, pl, ab => by
  rw [chainS]
  split
  ·
   rename_i h
   rw [Bool.and_eq_true] at h
   obtain ⟨h1, h2⟩ := oN_le h.1
   have ih := chain_count ep cut n (s.drop (oN s).toNat) (pl + oN s) (oF s).gsn
   simp only [List.length_cons, List.length_drop] at ih ⊢
   omega
  · simp only [List.length_nil]; omega
end Go.Q
namespace Go.Q
end Go.Q
namespace Go.Q
open Go.Proofs
theorem ti3 : TI Tryz.prog 3 (.int .i64 0) 1 8 := TI.mk (by kernel_rfl)
theorem ti4 : TI Tryz.prog 4 (.bool false) 1 1 := TI.mk (by kernel_rfl)
theorem ti5 : TI Tryz.prog 5 (.int .u8 0) 1 1 := TI.mk (by kernel_rfl)
theorem ti9 : TI Tryz.prog 9 (.string ⟨#[]⟩) 1 16 := TI.mk (by kernel_rfl)
theorem zR : TI Tryz.prog 23 (.agg #[(.int .i64 0), (.int .i64 0), (.int .i64 0), (.int .i64 0), (.int .i64 0)]) 5 40 := TI.mk (by kernel_rfl)
theorem ti28 : TI Tryz.prog 28 (.int .i64 0) 1 8 := TI.mk (by kernel_rfl)
theorem ti30 : TI Tryz.prog 30 (.slice none 0 0) 1 24 := TI.mk (by kernel_rfl)
theorem ti37 : TI Tryz.prog 37 (.slice none 0 0) 1 24 := TI.mk (by kernel_rfl)
theorem ti42 : TI Tryz.prog 42 (.agg #[(.int .i64 0), (.int .i64 0), (.string ⟨#[]⟩)]) 3 32 := TI.mk (by kernel_rfl)
theorem ti44 : TI Tryz.prog 44 (.agg #[(.int .i64 0), (.int .i64 0), (.int .i64 0), (.string ⟨#[]⟩)]) 4 40 := TI.mk (by kernel_rfl)
theorem ti170 : TI Tryz.prog 170 (.agg #[(.int .i64 0), (.int .i64 0)]) 2 16 := TI.mk (by kernel_rfl)
theorem ti173 : TI Tryz.prog 173 (.agg #[(.int .i64 0), (.int .i64 0), (.int .i64 0), (.int .i64 0), (.int .i64 0)]) 5 40 := TI.mk (by kernel_rfl)
theorem ti176 : TI Tryz.prog 176 (.agg #[(.int .i64 0), (.int .i64 0), (.int .i64 0), (.string ⟨#[]⟩)]) 4 40 := TI.mk (by kernel_rfl)
theorem ti247 : TI Tryz.prog 247 (.pointer none) 1 8 := TI.mk (by kernel_rfl)
theorem ti249 : TI Tryz.prog 249 (.agg #[(.pointer none), (.slice none 0 0)]) 2 32 := TI.mk (by kernel_rfl)
theorem ti269 : TI Tryz.prog 269 (.agg #[(.int .i64 0), (.int .i64 0), (.int .i64 0)]) 3 24 := TI.mk (by kernel_rfl)
theorem ti349 : TI Tryz.prog 349 (.int .u32 0) 1 4 := TI.mk (by kernel_rfl)
theorem ti367 : TI Tryz.prog 367 (.pointer none) 1 8 := TI.mk (by kernel_rfl)
theorem ca11 : Callable Tryz.prog 11 := ⟨_, Tryz.func11, by kernel_rfl, by kernel_rfl⟩
theorem ca12 : Callable Tryz.prog 12 := ⟨_, Tryz.func12, by kernel_rfl, by kernel_rfl⟩
theorem ca13 : Callable Tryz.prog 13 := ⟨_, Tryz.func13, by kernel_rfl, by kernel_rfl⟩
theorem ca14 : Callable Tryz.prog 14 := ⟨_, Tryz.func14, by kernel_rfl, by kernel_rfl⟩
theorem ca15 : Callable Tryz.prog 15 := ⟨_, Tryz.func15, by kernel_rfl, by kernel_rfl⟩
theorem ca16 : Callable Tryz.prog 16 := ⟨_, Tryz.func16, by kernel_rfl, by kernel_rfl⟩
theorem ca17 : Callable Tryz.prog 17 := ⟨_, Tryz.func17, by kernel_rfl, by kernel_rfl⟩
theorem ca18 : Callable Tryz.prog 18 := ⟨_, Tryz.func18, by kernel_rfl, by kernel_rfl⟩
theorem ca19 : Callable Tryz.prog 19 := ⟨_, Tryz.func19, by kernel_rfl, by kernel_rfl⟩
theorem ca23 : Callable Tryz.prog 23 := ⟨_, Tryz.func23, by kernel_rfl, by kernel_rfl⟩
theorem ca26 : Callable Tryz.prog 26 := ⟨_, Tryz.func26, by kernel_rfl, by kernel_rfl⟩
theorem ca29 : Callable Tryz.prog 29 := ⟨_, Tryz.func29, by kernel_rfl, by kernel_rfl⟩
theorem ca30 : Callable Tryz.prog 30 := ⟨_, Tryz.func30, by kernel_rfl, by kernel_rfl⟩
theorem ca31 : Callable Tryz.prog 31 := ⟨_, Tryz.func31, by kernel_rfl, by kernel_rfl⟩
theorem ca32 : Callable Tryz.prog 32 := ⟨_, Tryz.func32, by kernel_rfl, by kernel_rfl⟩
theorem ca37 : Callable Tryz.prog 37 := ⟨_, Tryz.func37, by kernel_rfl, by kernel_rfl⟩
theorem ca38 : Callable Tryz.prog 38 := ⟨_, Tryz.func38, by kernel_rfl, by kernel_rfl⟩
theorem ca39 : Callable Tryz.prog 39 := ⟨_, Tryz.func39, by kernel_rfl, by kernel_rfl⟩
theorem ca85 : Callable Tryz.prog 85 := ⟨_, Tryz.func85, by kernel_rfl, by kernel_rfl⟩
theorem ca86 : Callable Tryz.prog 86 := ⟨_, Tryz.func86, by kernel_rfl, by kernel_rfl⟩
theorem ca87 : Callable Tryz.prog 87 := ⟨_, Tryz.func87, by kernel_rfl, by kernel_rfl⟩
theorem ca88 : Callable Tryz.prog 88 := ⟨_, Tryz.func88, by kernel_rfl, by kernel_rfl⟩
theorem ca89 : Callable Tryz.prog 89 := ⟨_, Tryz.func89, by kernel_rfl, by kernel_rfl⟩
theorem ca90 : Callable Tryz.prog 90 := ⟨_, Tryz.func90, by kernel_rfl, by kernel_rfl⟩
theorem ca91 : Callable Tryz.prog 91 := ⟨_, Tryz.func91, by kernel_rfl, by kernel_rfl⟩
theorem ca92 : Callable Tryz.prog 92 := ⟨_, Tryz.func92, by kernel_rfl, by kernel_rfl⟩
theorem ca93 : Callable Tryz.prog 93 := ⟨_, Tryz.func93, by kernel_rfl, by kernel_rfl⟩
theorem ca94 : Callable Tryz.prog 94 := ⟨_, Tryz.func94, by kernel_rfl, by kernel_rfl⟩
theorem ca95 : Callable Tryz.prog 95 := ⟨_, Tryz.func95, by kernel_rfl, by kernel_rfl⟩
theorem ca96 : Callable Tryz.prog 96 := ⟨_, Tryz.func96, by kernel_rfl, by kernel_rfl⟩
theorem ca97 : Callable Tryz.prog 97 := ⟨_, Tryz.func97, by kernel_rfl, by kernel_rfl⟩
theorem ca98 : Callable Tryz.prog 98 := ⟨_, Tryz.func98, by kernel_rfl, by kernel_rfl⟩
theorem ca99 : Callable Tryz.prog 99 := ⟨_, Tryz.func99, by kernel_rfl, by kernel_rfl⟩
theorem ca100 : Callable Tryz.prog 100 := ⟨_, Tryz.func100, by kernel_rfl, by kernel_rfl⟩
theorem ca101 : Callable Tryz.prog 101 := ⟨_, Tryz.func101, by kernel_rfl, by kernel_rfl⟩
theorem ca102 : Callable Tryz.prog 102 := ⟨_, Tryz.func102, by kernel_rfl, by kernel_rfl⟩
theorem ca106 : Callable Tryz.prog 106 := ⟨_, Tryz.func106, by kernel_rfl, by kernel_rfl⟩
theorem ca107 : Callable Tryz.prog 107 := ⟨_, Tryz.func107, by kernel_rfl, by kernel_rfl⟩
theorem ca108 : Callable Tryz.prog 108 := ⟨_, Tryz.func108, by kernel_rfl, by kernel_rfl⟩
theorem ca109 : Callable Tryz.prog 109 := ⟨_, Tryz.func109, by kernel_rfl, by kernel_rfl⟩
theorem ca110 : Callable Tryz.prog 110 := ⟨_, Tryz.func110, by kernel_rfl, by kernel_rfl⟩
theorem ca112 : Callable Tryz.prog 112 := ⟨_, Tryz.func112, by kernel_rfl, by kernel_rfl⟩
theorem ca113 : Callable Tryz.prog 113 := ⟨_, Tryz.func113, by kernel_rfl, by kernel_rfl⟩
theorem ca114 : Callable Tryz.prog 114 := ⟨_, Tryz.func114, by kernel_rfl, by kernel_rfl⟩
theorem ca117 : Callable Tryz.prog 117 := ⟨_, Tryz.func117, by kernel_rfl, by kernel_rfl⟩
theorem ca118 : Callable Tryz.prog 118 := ⟨_, Tryz.func118, by kernel_rfl, by kernel_rfl⟩
theorem ca119 : Callable Tryz.prog 119 := ⟨_, Tryz.func119, by kernel_rfl, by kernel_rfl⟩
theorem ca120 : Callable Tryz.prog 120 := ⟨_, Tryz.func120, by kernel_rfl, by kernel_rfl⟩
theorem ca121 : Callable Tryz.prog 121 := ⟨_, Tryz.func121, by kernel_rfl, by kernel_rfl⟩
theorem ca122 : Callable Tryz.prog 122 := ⟨_, Tryz.func122, by kernel_rfl, by kernel_rfl⟩
theorem ca123 : Callable Tryz.prog 123 := ⟨_, Tryz.func123, by kernel_rfl, by kernel_rfl⟩
theorem ca124 : Callable Tryz.prog 124 := ⟨_, Tryz.func124, by kernel_rfl, by kernel_rfl⟩
theorem ca133 : Callable Tryz.prog 133 := ⟨_, Tryz.func133, by kernel_rfl, by kernel_rfl⟩
theorem ca165 : Callable Tryz.prog 165 := ⟨_, Tryz.func165, by kernel_rfl, by kernel_rfl⟩
theorem ca173 : Callable Tryz.prog 173 := ⟨_, Tryz.func173, by kernel_rfl, by kernel_rfl⟩
theorem ca174 : Callable Tryz.prog 174 := ⟨_, Tryz.func174, by kernel_rfl, by kernel_rfl⟩
theorem ca175 : Callable Tryz.prog 175 := ⟨_, Tryz.func175, by kernel_rfl, by kernel_rfl⟩
theorem ca176 : Callable Tryz.prog 176 := ⟨_, Tryz.func176, by kernel_rfl, by kernel_rfl⟩
theorem ca179 : Callable Tryz.prog 179 := ⟨_, Tryz.func179, by kernel_rfl, by kernel_rfl⟩
theorem ca181 : Callable Tryz.prog 181 := ⟨_, Tryz.func181, by kernel_rfl, by kernel_rfl⟩
theorem ca182 : Callable Tryz.prog 182 := ⟨_, Tryz.func182, by kernel_rfl, by kernel_rfl⟩
theorem ca183 : Callable Tryz.prog 183 := ⟨_, Tryz.func183, by kernel_rfl, by kernel_rfl⟩
theorem ca184 : Callable Tryz.prog 184 := ⟨_, Tryz.func184, by kernel_rfl, by kernel_rfl⟩
theorem ca185 : Callable Tryz.prog 185 := ⟨_, Tryz.func185, by kernel_rfl, by kernel_rfl⟩
theorem ca186 : Callable Tryz.prog 186 := ⟨_, Tryz.func186, by kernel_rfl, by kernel_rfl⟩
theorem ca187 : Callable Tryz.prog 187 := ⟨_, Tryz.func187, by kernel_rfl, by kernel_rfl⟩
theorem ca188 : Callable Tryz.prog 188 := ⟨_, Tryz.func188, by kernel_rfl, by kernel_rfl⟩
theorem ca189 : Callable Tryz.prog 189 := ⟨_, Tryz.func189, by kernel_rfl, by kernel_rfl⟩
theorem ca190 : Callable Tryz.prog 190 := ⟨_, Tryz.func190, by kernel_rfl, by kernel_rfl⟩
theorem ca191 : Callable Tryz.prog 191 := ⟨_, Tryz.func191, by kernel_rfl, by kernel_rfl⟩
theorem ca192 : Callable Tryz.prog 192 := ⟨_, Tryz.func192, by kernel_rfl, by kernel_rfl⟩
theorem ca193 : Callable Tryz.prog 193 := ⟨_, Tryz.func193, by kernel_rfl, by kernel_rfl⟩
theorem ca194 : Callable Tryz.prog 194 := ⟨_, Tryz.func194, by kernel_rfl, by kernel_rfl⟩
theorem ca195 : Callable Tryz.prog 195 := ⟨_, Tryz.func195, by kernel_rfl, by kernel_rfl⟩
theorem ca196 : Callable Tryz.prog 196 := ⟨_, Tryz.func196, by kernel_rfl, by kernel_rfl⟩
theorem ca197 : Callable Tryz.prog 197 := ⟨_, Tryz.func197, by kernel_rfl, by kernel_rfl⟩
theorem ca198 : Callable Tryz.prog 198 := ⟨_, Tryz.func198, by kernel_rfl, by kernel_rfl⟩
theorem ca202 : Callable Tryz.prog 202 := ⟨_, Tryz.func202, by kernel_rfl, by kernel_rfl⟩
theorem ca203 : Callable Tryz.prog 203 := ⟨_, Tryz.func203, by kernel_rfl, by kernel_rfl⟩
theorem ca217 : Callable Tryz.prog 217 := ⟨_, Tryz.func217, by kernel_rfl, by kernel_rfl⟩
theorem ca262 : Callable Tryz.prog 262 := ⟨_, Tryz.func262, by kernel_rfl, by kernel_rfl⟩
theorem ca264 : Callable Tryz.prog 264 := ⟨_, Tryz.func264, by kernel_rfl, by kernel_rfl⟩
theorem ca266 : Callable Tryz.prog 266 := ⟨_, Tryz.func266, by kernel_rfl, by kernel_rfl⟩
theorem ca267 : Callable Tryz.prog 267 := ⟨_, Tryz.func267, by kernel_rfl, by kernel_rfl⟩
theorem ca268 : Callable Tryz.prog 268 := ⟨_, Tryz.func268, by kernel_rfl, by kernel_rfl⟩
theorem ca276 : Callable Tryz.prog 276 := ⟨_, Tryz.func276, by kernel_rfl, by kernel_rfl⟩
theorem ca277 : Callable Tryz.prog 277 := ⟨_, Tryz.func277, by kernel_rfl, by kernel_rfl⟩
theorem ca326 : Callable Tryz.prog 326 := ⟨_, Tryz.func326, by kernel_rfl, by kernel_rfl⟩
theorem ca327 : Callable Tryz.prog 327 := ⟨_, Tryz.func327, by kernel_rfl, by kernel_rfl⟩
theorem mixed : Tryz.prog.follows .mixedOrders = true := by kernel_rfl
end Go.Q
namespace Go.Q
open Go.Proofs Go.Shelf
def jl_ren : Go.Shelf.Ren := ⟨fun | 156 => 118 | 165 => 178 | 166 => 179 | 169 => 181 | 240 => 264 | 241 => 265 | 276 => 324 | 277 => 325 | n => n, fun | 31 => 46 | 9 => 9 | 3 => 3 | 4 => 4 | 0 => 0 | 20 => 20 | 72 => 249 | 76 => 252 | 70 => 247 | 37 => 30 | 75 => 251 | 127 => 356 | 164 => 407 | 5 => 5 | 80 => 147 | n => n, fun | n => n⟩
theorem jl : Go.Proofs.Lays.n156 Tryz.prog jl_ren := {
 mixed := by kernel_rfl
 f156 := Tryz.func118.trans (congrArg some (by kernel_rfl))
 f165 := Tryz.func178.trans (congrArg some (by kernel_rfl))
 f166 := Tryz.func179.trans (congrArg some (by kernel_rfl))
 f169 := Tryz.func181.trans (congrArg some (by kernel_rfl))
 f240 := Tryz.func264.trans (congrArg some (by kernel_rfl))
 f241 := Tryz.func265.trans (congrArg some (by kernel_rfl))
 f276 := Tryz.func324.trans (congrArg some (by kernel_rfl))
 f277 := Tryz.func325.trans (congrArg some (by kernel_rfl))
 t0 := Tryz.underlying0
 a0 := Tryz.isAgg0
 z0 := Tryz.sizeOf0
 v0 := Tryz.zeroValue0
 t3 := Tryz.underlying3
 a3 := Tryz.isAgg3
 z3 := Tryz.sizeOf3
 v3 := Tryz.zeroValue3
 t4 := Tryz.underlying4
 a4 := Tryz.isAgg4
 z4 := Tryz.sizeOf4
 v4 := Tryz.zeroValue4
 t9 := Tryz.underlying9
 a9 := Tryz.isAgg9
 z9 := Tryz.sizeOf9
 v9 := Tryz.zeroValue9
 t20 := Tryz.underlying20
 a20 := Tryz.isAgg20
 z20 := Tryz.sizeOf20
 v20 := Tryz.zeroValue20
 t31 := Tryz.underlying46
 a31 := Tryz.isAgg46
 z31 := Tryz.sizeOf46
 v31 := Tryz.zeroValue46
 t37 := Tryz.underlying30
 a37 := Tryz.isAgg30
 z37 := Tryz.sizeOf30
 v37 := Tryz.zeroValue30
 t70 := Tryz.underlying247
 a70 := Tryz.isAgg247
 z70 := Tryz.sizeOf247
 v70 := Tryz.zeroValue247
 t72 := Tryz.underlying249
 a72 := Tryz.isAgg249
 z72 := Tryz.sizeOf249
 v72 := Tryz.zeroValue249
 t75 := Tryz.underlying251
 a75 := Tryz.isAgg251
 z75 := Tryz.sizeOf251
 v75 := Tryz.zeroValue251
 t76 := Tryz.underlying252
 a76 := Tryz.isAgg252
 z76 := Tryz.sizeOf252
 v76 := Tryz.zeroValue252
 t127 := Tryz.underlying356
 a127 := Tryz.isAgg356
 z127 := Tryz.sizeOf356
 v127 := Tryz.zeroValue356
 t164 := Tryz.underlying407
 a164 := Tryz.isAgg407
 z164 := Tryz.sizeOf407
 v164 := Tryz.zeroValue407 }
def rpl_ren : Go.Shelf.Ren := ⟨fun | 105 => 91 | 212 => 173 | 99 => 177 | 165 => 178 | 166 => 179 | 170 => 180 | 169 => 181 | 263 => 260 | 264 => 261 | 206 => 263 | 240 => 264 | 241 => 265 | 276 => 324 | 277 => 325 | n => n, fun | 9 => 9 | 3 => 3 | 4 => 4 | 20 => 20 | 0 => 0 | 46 => 65 | 109 => 243 | 5 => 5 | 72 => 249 | 76 => 252 | 51 => 349 | 146 => 350 | 53 => 352 | 148 => 353 | 70 => 247 | 37 => 30 | 75 => 251 | 127 => 356 | 164 => 407 | 80 => 147 | n => n, fun | n => n⟩
theorem rpl : Go.Proofs.Lays.n105 Tryz.prog rpl_ren := {
 mixed := by kernel_rfl
 f99 := Tryz.func177.trans (congrArg some (by kernel_rfl))
 f105 := Tryz.func91.trans (congrArg some (by kernel_rfl))
 f165 := Tryz.func178.trans (congrArg some (by kernel_rfl))
 f166 := Tryz.func179.trans (congrArg some (by kernel_rfl))
 f169 := Tryz.func181.trans (congrArg some (by kernel_rfl))
 f170 := Tryz.func180.trans (congrArg some (by kernel_rfl))
 f206 := Tryz.func263.trans (congrArg some (by kernel_rfl))
 f212 := Tryz.func173.trans (congrArg some (by kernel_rfl))
 f240 := Tryz.func264.trans (congrArg some (by kernel_rfl))
 f241 := Tryz.func265.trans (congrArg some (by kernel_rfl))
 f263 := Tryz.func260.trans (congrArg some (by kernel_rfl))
 f264 := Tryz.func261.trans (congrArg some (by kernel_rfl))
 f276 := Tryz.func324.trans (congrArg some (by kernel_rfl))
 f277 := Tryz.func325.trans (congrArg some (by kernel_rfl))
 t0 := Tryz.underlying0
 a0 := Tryz.isAgg0
 z0 := Tryz.sizeOf0
 v0 := Tryz.zeroValue0
 t3 := Tryz.underlying3
 a3 := Tryz.isAgg3
 z3 := Tryz.sizeOf3
 v3 := Tryz.zeroValue3
 t4 := Tryz.underlying4
 a4 := Tryz.isAgg4
 z4 := Tryz.sizeOf4
 v4 := Tryz.zeroValue4
 t5 := Tryz.underlying5
 a5 := Tryz.isAgg5
 z5 := Tryz.sizeOf5
 v5 := Tryz.zeroValue5
 t9 := Tryz.underlying9
 a9 := Tryz.isAgg9
 z9 := Tryz.sizeOf9
 v9 := Tryz.zeroValue9
 t20 := Tryz.underlying20
 a20 := Tryz.isAgg20
 z20 := Tryz.sizeOf20
 v20 := Tryz.zeroValue20
 t37 := Tryz.underlying30
 a37 := Tryz.isAgg30
 z37 := Tryz.sizeOf30
 v37 := Tryz.zeroValue30
 t46 := Tryz.underlying65
 a46 := Tryz.isAgg65
 z46 := Tryz.sizeOf65
 v46 := Tryz.zeroValue65
 t51 := Tryz.underlying349
 a51 := Tryz.isAgg349
 z51 := Tryz.sizeOf349
 v51 := Tryz.zeroValue349
 t53 := Tryz.underlying352
 a53 := Tryz.isAgg352
 z53 := Tryz.sizeOf352
 v53 := Tryz.zeroValue352
 t70 := Tryz.underlying247
 a70 := Tryz.isAgg247
 z70 := Tryz.sizeOf247
 v70 := Tryz.zeroValue247
 t72 := Tryz.underlying249
 a72 := Tryz.isAgg249
 z72 := Tryz.sizeOf249
 v72 := Tryz.zeroValue249
 t75 := Tryz.underlying251
 a75 := Tryz.isAgg251
 z75 := Tryz.sizeOf251
 v75 := Tryz.zeroValue251
 t76 := Tryz.underlying252
 a76 := Tryz.isAgg252
 z76 := Tryz.sizeOf252
 v76 := Tryz.zeroValue252
 t109 := Tryz.underlying243
 a109 := Tryz.isAgg243
 z109 := Tryz.sizeOf243
 v109 := Tryz.zeroValue243
 t127 := Tryz.underlying356
 a127 := Tryz.isAgg356
 z127 := Tryz.sizeOf356
 v127 := Tryz.zeroValue356
 t146 := Tryz.underlying350
 a146 := Tryz.isAgg350
 z146 := Tryz.sizeOf350
 v146 := Tryz.zeroValue350
 t148 := Tryz.underlying353
 a148 := Tryz.isAgg353
 z148 := Tryz.sizeOf353
 v148 := Tryz.zeroValue353
 t164 := Tryz.underlying407
 a164 := Tryz.isAgg407
 z164 := Tryz.sizeOf407
 v164 := Tryz.zeroValue407 }
def mul_ren : Go.Shelf.Ren := ⟨fun | 212 => 173 | 263 => 260 | 264 => 261 | n => n, fun | 46 => 65 | 51 => 349 | 146 => 350 | 53 => 352 | 148 => 353 | n => n, fun | n => n⟩
theorem mul : Go.Proofs.Lays.n212 Tryz.prog mul_ren := {
 mixed := by kernel_rfl
 f212 := Tryz.func173.trans (congrArg some (by kernel_rfl))
 f263 := Tryz.func260.trans (congrArg some (by kernel_rfl))
 f264 := Tryz.func261.trans (congrArg some (by kernel_rfl))
 t46 := Tryz.underlying65
 a46 := Tryz.isAgg65
 z46 := Tryz.sizeOf65
 v46 := Tryz.zeroValue65
 t51 := Tryz.underlying349
 a51 := Tryz.isAgg349
 z51 := Tryz.sizeOf349
 v51 := Tryz.zeroValue349
 t53 := Tryz.underlying352
 a53 := Tryz.isAgg352
 z53 := Tryz.sizeOf352
 v53 := Tryz.zeroValue352
 t146 := Tryz.underlying350
 a146 := Tryz.isAgg350
 z146 := Tryz.sizeOf350
 v146 := Tryz.zeroValue350
 t148 := Tryz.underlying353
 a148 := Tryz.isAgg353
 z148 := Tryz.sizeOf353
 v148 := Tryz.zeroValue353 }
theorem jl_extra : Builder.Extra Tryz.prog jl_ren := {
 sizeBuilder := by kernel_rfl
 liesBuilder := by kernel_rfl
 t5 := Tryz.underlying5
 a5 := Tryz.isAgg5
 z5 := Tryz.sizeOf5
 v5 := Tryz.zeroValue5
 infoByte := by kernel_rfl
 cellsByte := by kernel_rfl
 sizeByte := by kernel_rfl
 neB5 := by decide }
theorem Has.of_below {E w w' : World} {ss : List (List Hp)} (H : Has E w ss) (hb : Go.RowKit.Below w.heap.size w w') : Has E w' ss :=
 ⟨hb.os.trans H.os, hb.tape.trans H.tape, hb.output.trans H.output, H.dj, fun h hh b o ho => by
  have h1 := Has0.sub H h hh b o ho
  rw [hb.block b (Array.getElem?_eq_some_iff.1 h1).1]; exact h1⟩
theorem join_flat : ∀ l : List (List UInt8), Lib.join l [] = l.flatten
 | [] => rfl
 | [x] => by rw [Lib.join_one]; simp
 | x :: y :: r => by
  have h := join_flat (y :: r)
  unfold Lib.join List.intercalate at *
  rw [List.intersperse_cons_cons, List.flatten_cons, List.flatten_cons, h, List.nil_append]; rfl
theorem join_c {E w : World} {R : List Hp} (hH : Has E w [R]) {v : Value} {l : List (List UInt8)} (hv : Sl R 1 v l.length (l.map S)) (hn : l.length ≤ 1000000) (hl : l.flatten.length ≤ 1000000000) :
  Calls Tryz.prog 118 #[v, S []] w fun e w' => e = .returned (S l.flatten) ∧ Has E w' [R] := by
 obtain ⟨p, cap, rfl, h1, h2, h3, h4⟩ := hv
 rcases Nat.eq_zero_or_pos l.length with h0 | h0
 ·
  obtain rfl := List.eq_nil_of_length_eq_zero h0
  exact (Any.strings_Join_none jl jl_extra p cap ⟨#[]⟩ w).mono fun e w' ⟨he, hw⟩ => ⟨he, by rw [hw]; exact hH⟩
 ·
  obtain ⟨b, off, rfl, hc⟩ := h4 h0
  have hcell : ∀ (j : Nat) x, (l.map (fun a => (⟨a.toArray⟩ : ByteArray)))[j]? = some x → w.cell? ⟨b, off + j, none⟩ = some (.string x) := fun j x hx => by
   rw [List.getElem?_map, Option.map_eq_some_iff] at hx
   obtain ⟨a, ha, rfl⟩ := hx
   exact hH.cell (L := R) (by simp) hc (v := S a) (by rw [List.getElem?_map, ha]; rfl)
  have hb : b < w.heap.size := by
   obtain ⟨x, hx⟩ : ∃ x, l[0]? = some x := ⟨l[0], List.getElem?_eq_getElem h0⟩
   have := hcell 0 ⟨x.toArray⟩ (by rw [List.getElem?_map, hx]; rfl)
   unfold World.cell? at this
   cases hw : w.heap[b]? with
   | none => rw [hw] at this; cases this
   | some o => exact (Array.getElem?_eq_some_iff.1 hw).1
  have e1 : (l.map (fun a => (⟨a.toArray⟩ : ByteArray))).map (·.data.toList) = l := by rw [List.map_map]; simp [Function.comp_def]
  have hj : Lib.join ((l.map (fun a => (⟨a.toArray⟩ : ByteArray))).map (·.data.toList)) ((⟨#[]⟩ : ByteArray).data.toList) = l.flatten := by rw [e1]; exact join_flat l
  have hs := Any.strings_Join jl jl_extra b off cap (l.map (fun a => (⟨a.toArray⟩ : ByteArray))) ⟨#[]⟩ w hcell hb (by rw [List.length_map]; omega) (by rw [List.length_map]; exact h1) (by rw [hj]; omega)
  rw [hj, List.length_map] at hs
  exact hs.mono fun e w' ⟨he, hb⟩ => ⟨he, hH.of_below hb⟩
theorem rpl_extra : Builder.Extra Tryz.prog rpl_ren := {
 sizeBuilder := by kernel_rfl
 liesBuilder := by kernel_rfl
 t5 := Tryz.underlying5
 a5 := Tryz.isAgg5
 z5 := Tryz.sizeOf5
 v5 := Tryz.zeroValue5
 infoByte := by kernel_rfl
 cellsByte := by kernel_rfl
 sizeByte := by kernel_rfl
 neB5 := by decide }
theorem repeat_c {E w : World} {R : List Hp} (hH : Has E w [R]) (n : Nat) (hn : n ≤ 1000000) : Calls Tryz.prog 91 #[S [0], .int .i64 (n : Int)] w fun e w' => e = .returned (S (List.replicate n 0)) ∧ Has E w' [R] := by
 have h := Any.strings_Repeat rpl rpl_extra ⟨#[0]⟩ n w (by omega) (by show 1 * n ≤ _; omega)
 refine h.mono fun e w' ⟨he, hb⟩ => ⟨?_, hH.of_below hb⟩
 rw [he]
 have : ∀ n, Lib.repeatL [(0 : UInt8)] n = List.replicate n 0 := fun n => by
  induction n with
  | zero => rfl
  | succ n ih => simp [Lib.repeatL, List.replicate_succ] at *; try exact ih
 exact congrArg (fun l => Ending.returned (Value.string ⟨l.toArray⟩)) (this n)
theorem mul_c {E w : World} {R : List Hp} (hH : Has E w [R]) (x y : Nat) (h : x * y < 18446744073709551616) (hx : x < 18446744073709551616) (hy : y < 18446744073709551616) : Calls Tryz.prog 173 #[.int .u64 x, .int .u64 y] w fun e w' => e = .returned (.tuple #[.int .u64 0, .int .u64 ((x * y : Nat) : Int)]) ∧ Has E w' [R] := by
 refine (Any.bits_Mul mul x y hx hy w).mono fun e w' ⟨he, hw⟩ => ⟨?_, hw ▸ hH⟩
 rw [he, Nat.div_eq_of_lt h, Nat.mod_eq_of_lt h]; rfl
end Go.Q
namespace Go.Q
/-- what the operations have yielded -/
def vsOf (ops : List Oper) (r : Nat → Value) : Nat → Value := fun j => match ops[j]? with | some o => slot r o | none => undef
/-- what those ahead of i have yielded -/
def msk (ops : List Oper) (i : Nat) (vs : Nat → Value) : Nat → Value := fun j => if anc ops ops.length i j = true then vs j else undef
/-- What an operation of the region is handed when its turn comes. -/
structure Turn2 (E : World) (ops : List Oper) (F : List (List Hp)) (C : Nat → List Hp) (Tp : Nat → Value → List Hp → (Nat → Value) → Prop) (N : Nat) (r : Nat → Value) (i : Nat) (r' : Nat → Value) (w : World) (G : List (List Hp)) (hs : Nat → List Hp) : Prop where
 has : Has E w (C i :: G)
 fr : ∀ s ∈ F, s ⊆ G.flatten
 done : ∀ j o, ops[j]? = some o → anc ops ops.length i j = true → Tp j (slot r' o) (hs j) (msk ops j (vsOf ops r')) ∧ hs j ⊆ G.flatten
 todo : ∀ j, anc ops ops.length j i = true → C j ⊆ G.flatten
 old : ∀ t, (∀ j o, ops[j]? = some o → o.dst = some t → j = i ∨ anc ops ops.length j i = true) → r' t = r t
 each : ∀ j o, ops[j]? = some o → j ≠ i → C j ⊆ G.flatten ∨ (∃ v m, Tp j v (hs j) m) ∧ hs j ⊆ G.flatten

theorem Turn2.was {E : World} {ops : List Oper} {F : List (List Hp)} {C : Nat → List Hp} {Tp : Nat → Value → List Hp → (Nat → Value) → Prop} {N : Nat} {r : Nat → Value} {i : Nat} {r' : Nat → Value} {w : World} {G : List (List Hp)} {hs : Nat → List Hp}
  (H : Turn2 E ops F C Tp N r i r' w G hs) (t : Nat) (h : oldB ops i t = true) : r' t = r t := by
 refine H.old t fun j o ho hd => ?_
 unfold oldB at h
 rw [List.all_eq_true] at h
 have := h j (List.mem_range.2 (List.getElem?_eq_some_iff.1 ho).1)
 simp only [ho, Bool.or_eq_true, bne_iff_ne, beq_iff_eq] at this
 rcases this with (h | h) | h
 · exact absurd hd h
 · exact .inl h
 · exact .inr h
end Go.Q
namespace Go.Q
/-- Is a region of that make: each slot written once, all edges lead back? -/
def flowOk3 (ops : List Oper) : Bool :=
 ((List.range ops.length).all fun i => match ops[i]? with
  | some o => (depsOf ops i).all (fun d => decide (d < i)) && (List.range ops.length).all fun j => j == i || match ops[j]? with
   | some o' => o.dst.isNone || o'.dst != o.dst
   | none => true
  | none => true)
theorem z8 {ops : List Oper} (h : flowOk3 ops = true) {i : Nat} {o : Oper} (ho : ops[i]? = some o) :
  (∀ d ∈ depsOf ops i, d < i) ∧ ∀ j o' t, ops[j]? = some o' → j ≠ i → o.dst = some t → o'.dst ≠ some t := by
 unfold flowOk3 at h
 rw [List.all_eq_true] at h
 have hi : i < ops.length := (List.getElem?_eq_some_iff.1 ho).1
 have h1 := h i (List.mem_range.2 hi)
 simp only [ho, Bool.and_eq_true, List.all_eq_true, decide_eq_true_eq] at h1
 obtain ⟨hd, hj⟩ := h1
 refine ⟨hd, fun j o' t hj' hne ht => ?_⟩
 have := hj j (List.mem_range.2 (List.getElem?_eq_some_iff.1 hj').1)
 simp only [hj', ht, Option.isNone_some, Bool.false_or, Bool.or_eq_true, beq_iff_eq, bne_iff_ne] at this
 rcases this with h | h
 · exact absurd h hne
 · exact h

theorem anc_trans3 {ops : List Oper} (_h : flowOk3 ops = true) {listed : Array Bool} (hc : ∀ i, listed.getD i false = true → ∀ d ∈ depsOf ops i, listed.getD d false = true) :
  ∀ f i j, anc ops f i j = true → (∀ d ∈ depsOf ops i, listed.getD d false = true) → listed.getD j false = true := by
 intro f
 induction f with
 | zero => intro i j h; simp [anc] at h
 | succ f ih =>
  intro i j h hd
  rw [anc, List.any_eq_true] at h
  obtain ⟨d, hdm, hh⟩ := h
  rw [Bool.or_eq_true] at hh
  rcases hh with e | e
  · rw [← beq_iff_eq.1 e]; exact hd d hdm
  · exact ih d j e (hc d (hd d hdm))

/-- An operation of a region, under its guard. -/
def GOK (P : Program) (ops : List Oper) (o : Oper) (N : Nat) (r : Nat → Value) (w : World) (K : Value → World → Prop) : Prop := match o.guard with
 | none => OK P o (ev N r) w K
 | some (g, b) => ∃ t, dstOf ops g = some t ∧ (ev N r (.tmp t) = .bool b ∧ OK P o (ev N r) w K ∨ ((∃ b', ev N r (.tmp t) = .bool b' ∧ (b' == b) = false) ∨ ev N r (.tmp t) = undef) ∧ K undef w)
theorem GOK.on {P : Program} {ops : List Oper} {o : Oper} {N : Nat} {r : Nat → Value} {w : World} {K : Value → World → Prop} {g t : Nat} {b : Bool} (hg : o.guard = some (g, b)) (ht : dstOf ops g = some t) (hv : ev N r (.tmp t) = .bool b) (h : OK P o (ev N r) w K) : GOK P ops o N r w K := by
 unfold GOK; rw [hg]; exact ⟨t, ht, .inl ⟨hv, h⟩⟩
theorem GOK.off {P : Program} {ops : List Oper} {o : Oper} {N : Nat} {r : Nat → Value} {w : World} {K : Value → World → Prop} {g t : Nat} {b b' : Bool} (hg : o.guard = some (g, b)) (ht : dstOf ops g = some t) (hv : ev N r (.tmp t) = .bool b') (hne : (b' == b) = false) (h : K undef w) : GOK P ops o N r w K := by
 unfold GOK; rw [hg]; exact ⟨t, ht, .inr ⟨.inl ⟨b', hv, hne⟩, h⟩⟩
theorem GOK.free {P : Program} {ops : List Oper} {o : Oper} {N : Nat} {r : Nat → Value} {w : World} {K : Value → World → Prop} (hg : o.guard = none) (h : OK P o (ev N r) w K) : GOK P ops o N r w K := by
 unfold GOK; rw [hg]; exact h
theorem GOK.wp {P : Program} {ops : List Oper} {Q : Exit → Act → World → Prop} {o : Oper} {N i : Nat} {r : Nat → Value} {w : World} {K : Value → World → Prop} {K' : Act → World → Prop} (ho : ops.toArray[i]? = some o) (h : GOK P ops o N r w K)
  (hK : ∀ v w'', K v w'' → K' ((Go.Q.fr N r).put o.dst v) w'') : wpOp P ops.toArray Q i K' (Go.Q.fr N r) w := by
 unfold wpOp
 simp only [ho]
 obtain ⟨d, op, T, pos, after, gd⟩ := o
 unfold GOK at h
 cases gd with
 | none =>
  rw [if_pos (by simp [Region.wanted])]
  refine .inl (OK.wp ?_)
  rw [fr_eval]
  exact OK.mono h fun v w'' hk => hK v w'' hk
 | some gb =>
  obtain ⟨g, b⟩ := gb
  obtain ⟨t, ht, h⟩ := h
  obtain ⟨og, hg, ht⟩ := dstOf_spec ops g ht
  rcases h with ⟨hv, h⟩ | ⟨⟨b', hv, hne⟩ | hv, h⟩
  ·
   rw [if_pos (by rw [wanted_fr hg ht hv]; simp)]
   refine .inl (OK.wp ?_)
   rw [fr_eval]
   exact OK.mono h fun v w'' hk => hK v w'' hk
  ·
   rw [if_neg (by rw [wanted_fr hg ht hv, hne]; simp)]
   exact hK _ _ h
  ·
   have hy : yielded ops.toArray (Go.Q.fr N r).tmps g = none := by
    simp only [yielded, hg, ht, Option.bind_some, fr_at]
    by_cases h : t < N
    ·
     have hb : Nat.blt t N = true := by simpa using h
     simp only [ev, hb] at hv
     have hv' : r t = undef := hv
     rw [if_pos h, hv']; rfl
    · rw [if_neg h]
   rw [if_neg (by simp [Region.wanted, hy])]
   exact hK _ _ h
theorem msk_upd3 {ops : List Oper} {i j d : Nat} {o : Oper} {r : Nat → Value} {v : Value} (hok : flowOk3 ops = true) (ho : ops[i]? = some o) (hd : o.dst = some d) (h : ∀ k, anc ops ops.length j k = true → k ≠ i) :
  msk ops j (vsOf ops (upd r d v)) = msk ops j (vsOf ops r) := by
 funext k
 unfold msk
 split
 ·
  rename_i hk
  unfold vsOf
  cases hok' : ops[k]? with
  | none => rfl
  | some ok =>
   have hne : ok.dst ≠ some d := (z8 hok ho).2 k ok d hok' (h k hk) hd
   show slot (upd r d v) ok = slot r ok
   unfold slot
   cases hdk : ok.dst with
   | none => rfl
   | some t => exact upd_ne _ _ (fun e => hne (hdk.trans (congrArg some e)))
 · rfl
/-- What an operation of the region is handed when its turn comes. -/
structure Turn3 (E : World) (ops : List Oper) (F : List (List Hp)) (C : Nat → List Hp) (Tp : Nat → Value → List Hp → (Nat → Value) → Prop) (N : Nat) (r : Nat → Value) (i : Nat) (r' : Nat → Value) (w : World) (G : List (List Hp)) (hs : Nat → List Hp) : Prop where
 has : Has E w (C i :: G)
 fr : ∀ s ∈ F, s ⊆ G.flatten
 done : ∀ j o, ops[j]? = some o → anc ops ops.length i j = true → Tp j (slot r' o) (hs j) (msk ops j (vsOf ops r')) ∧ hs j ⊆ G.flatten
 todo : ∀ j, anc ops ops.length j i = true → C j ⊆ G.flatten
 old : ∀ t, (∀ j o, ops[j]? = some o → o.dst = some t → j = i ∨ anc ops ops.length j i = true) → r' t = r t
 each : ∀ j o, ops[j]? = some o → j ≠ i → C j ⊆ G.flatten ∨ (∃ v m, Tp j v (hs j) m) ∧ hs j ⊆ G.flatten

theorem Turn3.was {E : World} {ops : List Oper} {F : List (List Hp)} {C : Nat → List Hp} {Tp : Nat → Value → List Hp → (Nat → Value) → Prop} {N : Nat} {r : Nat → Value} {i : Nat} {r' : Nat → Value} {w : World} {G : List (List Hp)} {hs : Nat → List Hp}
  (H : Turn3 E ops F C Tp N r i r' w G hs) (t : Nat) (h : oldB ops i t = true) : r' t = r t := by
 refine H.old t fun j o ho hd => ?_
 unfold oldB at h
 rw [List.all_eq_true] at h
 have := h j (List.mem_range.2 (List.getElem?_eq_some_iff.1 ho).1)
 simp only [ho, Bool.or_eq_true, bne_iff_ne, beq_iff_eq] at this
 rcases this with (h | h) | h
 · exact absurd hd h
 · exact .inl h
 · exact .inr h
end Go.Q
namespace Go.Q
/-- All that is behind m waits for all that is ahead. -/
def barB (ops : List Oper) (m : Nat) : Bool := (List.range' m (ops.length - m)).all fun i => (List.range m).all fun j => anc ops ops.length i j
theorem barB_spec {ops : List Oper} {m : Nat} (h : barB ops m = true) : ∀ i j, m ≤ i → i < ops.length → j < m → anc ops ops.length i j = true := fun i j h1 h2 h3 => by
 unfold barB at h
 rw [List.all_eq_true] at h
 have := h i (List.mem_range'_1.2 (by omega))
 rw [List.all_eq_true] at this
 exact this j (List.mem_range.2 h3)
/-- What is to be shown where the first m operations are done. -/
def Rest (P : Program) (Q : Exit → Act → World → Prop) (ops : List Oper) (m : Nat) (a : Act) (w : World) : Prop :=
 flowOk3 ops = true → ∀ (fuel : Nat) (listed : Array Bool), listed.size = ops.length → (∀ i, i < m → listed.getD i false = true) → (∀ i, m ≤ i → listed.getD i false = false) → ops.length - m ≤ fuel → wpAny P .any ops.toArray Q fuel listed a w
theorem Rest.region {P : Program} {Q : Exit → Act → World → Prop} {w : World} {N : Nat} {r : Nat → Value} {id : Nat} {ops : List Oper} (hm : P.follows .mixedOrders = true) (hok : flowOk3 ops = true) (h : Rest P Q ops 0 (Go.Q.fr N r) { w with drawn := w.drawn + 1 }) : (Code.region id ops.toArray true).wp P Q (Go.Q.fr N r) w := by
 refine wp_region_any hm (h hok _ _ (by simp) (fun i hi => absurd hi (Nat.not_lt_zero _)) (fun i _ => ?_) (by simp))
 by_cases h : i < ops.length <;> simp [h]
theorem Rest.end {P : Program} {Q : Exit → Act → World → Prop} {ops : List Oper} {a : Act} {w : World} (h : Q .normal a w) : Rest P Q ops ops.length a w := fun _ fuel listed hsz hall _ _ => by
 refine wpAny_done ?_ h fuel
 rw [List.eq_nil_iff_forall_not_mem]
 intro i hi
 obtain ⟨h0, o, ho, _⟩ := mem_ready.1 hi
 have hlt : i < ops.length := by simpa using (Array.getElem?_eq_some_iff.1 ho).1
 have h1 := hall i hlt
 have hs : i < listed.size := by omega
 simp [hs] at h0 h1; rw [h0] at h1; cases h1
theorem Rest.done {P : Program} {Q : Exit → Act → World → Prop} {ops : List Oper} {a : Act} {w : World} {m : Nat} (hm : m = ops.length) (h : Q .normal a w) : Rest P Q ops m a w := hm ▸ Rest.end h
theorem Rest.one {P : Program} {Q : Exit → Act → World → Prop} {ops : List Oper} {N : Nat} {r : Nat → Value} {w : World} {k : Nat} {o : Oper} (ho : ops[k]? = some o) (hb : barB ops (k + 1) = true)
  (h : GOK P ops o N r w fun v w'' => Rest P Q ops (k + 1) ((Go.Q.fr N r).put o.dst v) w'') : Rest P Q ops k (Go.Q.fr N r) w := by
 intro hok fuel listed hsz hall hnot hf
 have hlk : k < ops.length := (List.getElem?_eq_some_iff.1 ho).1
 obtain ⟨f, rfl⟩ : ∃ f, fuel = f + 1 := ⟨fuel - 1, by omega⟩
 have hcl : ∀ i, listed.getD i false = true → ∀ d ∈ depsOf ops i, listed.getD d false = true := fun i hi d hd => by
  have hik : i < k := by
   rcases Nat.lt_or_ge i k with g | g
   · exact g
   · rw [hnot i g] at hi; cases hi
  have := (z8 hok (List.getElem?_eq_getElem (show i < ops.length by omega))).1 d hd
  exact hall d (by omega)
 have hkr : k ∈ Region.ready .any ops.toArray listed := by
  refine mem_ready.2 ⟨?_, ops[k], by simp [hlk], fun e he hb => ?_⟩
  ·
   have h1 := hnot k (Nat.le_refl _)
   have hs : k < listed.size := by omega
   simp [hs] at h1 ⊢; exact h1
  ·
   have hd := mem_depsOf (List.getElem?_eq_getElem hlk) he hb
   exact hall _ ((z8 hok (List.getElem?_eq_getElem hlk)).1 _ hd)
 refine ⟨fun hr => (by rw [hr] at hkr; cases hkr), fun i hi => ?_⟩
 obtain ⟨h0, o', ho', hdone⟩ := mem_ready.1 hi
 have hlt : i < ops.length := by simpa using (Array.getElem?_eq_some_iff.1 ho').1
 have hli : listed.getD i false = false := by
  have hs : i < listed.size := by omega
  simp [hs] at h0 ⊢; exact h0
 have hdeps : ∀ d ∈ depsOf ops i, listed.getD d false = true := by
  intro d hd
  unfold depsOf at hd
  rw [show ops[i]? = some o' by simpa using ho'] at hd
  obtain ⟨e, he, heq⟩ := List.mem_filterMap.1 hd
  split at heq
  · cases heq; exact hdone e (by simpa using he) (by assumption)
  · cases heq
 have hik : i = k := by
  rcases Nat.lt_trichotomy i k with g | g | g
  · rw [hall i g] at hli; cases hli
  · exact g
  ·
   have := anc_trans3 hok hcl _ i k (barB_spec hb i k (by omega) hlt (by omega)) hdeps
   rw [hnot k (Nat.le_refl _)] at this; cases this
 subst hik
 refine GOK.wp (by simpa using ho) h fun v w'' hk => hk hok f _ (by simpa using hsz) (fun j hj => ?_) (fun j hj => ?_) (by omega)
 ·
  by_cases e : i = j
  ·
   subst e
   have : i < listed.size := by omega
   simp [this]
  · rw [getD_set_ne false e]; exact hall j (by omega)
 · rw [getD_set_ne false (show i ≠ j by omega)]; exact hnot j (by omega)
section
variable {P : Program} {Q : Exit → Act → World → Prop} {ops : List Oper} {N : Nat} {r : Nat → Value} {w : World}
theorem zP {d : Nat} {op : Op} {T : TypeId} {pos : String} {after : Array Edge} (k : Nat) (ho : ops[k]? = some ⟨some d, op, T, pos, after, none⟩) (hb : barB ops (k + 1) = true)
  (h : OK P ⟨some d, op, T, pos, after, none⟩ (ev N r) w fun v w' => Rest P Q ops (k + 1) (Go.Q.fr N (upd r d v)) w') : Rest P Q ops k (Go.Q.fr N r) w :=
 Rest.one ho hb (GOK.free rfl (h.mono fun v w' hk => by rw [fr_put]; exact hk))
theorem r_eff {op : Op} {T : TypeId} {pos : String} {after : Array Edge} (k : Nat) (ho : ops[k]? = some ⟨none, op, T, pos, after, none⟩) (hb : barB ops (k + 1) = true)
  (h : OK P ⟨none, op, T, pos, after, none⟩ (ev N r) w fun _ w' => Rest P Q ops (k + 1) (Go.Q.fr N r) w') : Rest P Q ops k (Go.Q.fr N r) w :=
 Rest.one ho hb (GOK.free rfl (h.mono fun v w' hk => by rw [fr_put_none]; exact hk))
theorem r_on {d : Nat} {op : Op} {T : TypeId} {pos : String} {after : Array Edge} {g : Nat} {b : Bool} (k : Nat) (ho : ops[k]? = some ⟨some d, op, T, pos, after, some (g, b)⟩) (hb : barB ops (k + 1) = true) (t : Nat) (hgt : dstOf ops g = some t) (hv : ev N r (.tmp t) = .bool b)
  (h : OK P ⟨some d, op, T, pos, after, some (g, b)⟩ (ev N r) w fun v w' => Rest P Q ops (k + 1) (Go.Q.fr N (upd r d v)) w') : Rest P Q ops k (Go.Q.fr N r) w :=
 Rest.one ho hb (GOK.on rfl hgt hv (h.mono fun v w' hk => by rw [fr_put]; exact hk))
theorem r_off {d : Nat} {op : Op} {T : TypeId} {pos : String} {after : Array Edge} {g : Nat} {b b' : Bool} (k : Nat) (ho : ops[k]? = some ⟨some d, op, T, pos, after, some (g, b)⟩) (hb : barB ops (k + 1) = true) (t : Nat) (hgt : dstOf ops g = some t) (hv : ev N r (.tmp t) = .bool b') (hne : (b' == b) = false)
  (h : Rest P Q ops (k + 1) (Go.Q.fr N (upd r d undef)) w) : Rest P Q ops k (Go.Q.fr N r) w :=
 Rest.one ho hb (GOK.off rfl hgt hv hne (by rw [fr_put]; exact h))
end
theorem Rest.phase {P : Program} {Q : Exit → Act → World → Prop} {E w : World} {N : Nat} {r : Nat → Value} {ops : List Oper} (F : List (List Hp)) (C : Nat → List Hp) (Tp : Nat → Value → List Hp → (Nat → Value) → Prop)
  (m0 m : Nat) (hml : m ≤ ops.length) (hm0 : m0 ≤ m) (hbar : barB ops m = true) (H : Has E w (F ++ (List.range ops.length).map C))
  (done0 : ∀ i o, i < m0 → ops[i]? = some o → Tp i (slot r o) (C i) (msk ops i (vsOf ops r)))
  (step : ∀ i o, m0 ≤ i → i < m → ops[i]? = some o → ∀ r' w' G hs, Turn3 E ops F C Tp N r i r' w' G hs → GOK P ops o N r' w' fun v w'' => ∃ h', Tp i (match o.dst with | some _ => v | none => undef) h' (msk ops i (vsOf ops r')) ∧ Has E w'' (h' :: G))
  (fin : ∀ (vs : Nat → Value) (hs : Nat → List Hp) w', (∀ i o, i < m → ops[i]? = some o → Tp i (vs i) (hs i) (msk ops i vs)) → (∀ i, m ≤ i → i < ops.length → hs i = C i) → Has E w' (F ++ (List.range ops.length).map hs) → Rest P Q ops m (Go.Q.fr N (puts vs (ops.take m) 0 r)) w') :
  Rest P Q ops m0 (Go.Q.fr N r) w := by
 intro hok fuel0 listed0 hsz0 hall0 hnot0 hf0
 have hsq := barB_spec hbar
 let Inv : Array Bool → Act → World → Prop := fun listed a w => listed.size = ops.length ∧ (∀ i, i < m0 → listed.getD i false = true) ∧ (∀ i, m ≤ i → listed.getD i false = false) ∧ (∀ i, listed.getD i false = true → ∀ d ∈ depsOf ops i, listed.getD d false = true) ∧
  ∃ r' hs, a = Go.Q.fr N r' ∧ Has E w (F ++ (List.range ops.length).map hs) ∧ (∀ i o, ops[i]? = some o → if listed.getD i false = true then o.dst.isSome = true ∧ Tp i (slot r' o) (hs i) (msk ops i (vsOf ops r')) ∨ o.dst = none ∧ Tp i undef (hs i) (msk ops i (vsOf ops r')) else hs i = C i) ∧
  (∀ t, (∀ i o, ops[i]? = some o → o.dst = some t → listed.getD i false = false) → r' t = r t)
 have key : ∀ fuel listed a w, Inv listed a w → (List.range ops.length).countP (fun i => !listed.getD i false) ≤ fuel → wpAny P .any ops.toArray Q fuel listed a w := by
  have ready0 : ∀ listed : Array Bool, listed.size = ops.length → Region.ready .any ops.toArray listed = [] → ∀ i, i < ops.length → listed.getD i false = true := by
   intro listed hsz hr i
   induction i using Nat.strongRecOn with
   | _ i ih =>
    intro hi
    cases hl : listed.getD i false with
    | true => rfl
    | false =>
     exfalso
     obtain ⟨o, ho⟩ : ∃ o, ops[i]? = some o := ⟨_, List.getElem?_eq_getElem hi⟩
     have : i ∈ Region.ready .any ops.toArray listed := by
      refine mem_ready.2 ⟨?_, o, by simpa using ho, fun e he hb => ?_⟩
      ·
       have : i < listed.size := by omega
       simp [this] at hl ⊢; exact hl
      ·
       have hd := mem_depsOf ho he hb
       have hlt := (z8 hok ho).1 _ hd
       exact ih _ hlt (by omega)
     rw [hr] at this; cases this
  have fin' : ∀ fuel listed a w, Inv listed a w → (List.range ops.length).countP (fun i => !listed.getD i false) ≤ fuel → (∀ i, i < m → listed.getD i false = true) → wpAny P .any ops.toArray Q fuel listed a w := by
   rintro fuel listed a w ⟨hsz, hpre, hnot, _, r', hs, rfl, hH, hT, hold⟩ hc hall
   let vs : Nat → Value := vsOf ops r'
   have htk : ∀ j o', (ops.take m)[j]? = some o' → ops[j]? = some o' ∧ j < m := fun j o' hj => by
    rw [List.getElem?_take] at hj
    split at hj
    · exact ⟨hj, by assumption⟩
    · cases hj
   have e : Go.Q.fr N r' = Go.Q.fr N (puts vs (ops.take m) 0 r) := by
    refine fr_congr fun t _ => ?_
    by_cases hex : ∃ (i : Nat) (o : Oper), (ops.take m)[i]? = some o ∧ o.dst = some t
    ·
     obtain ⟨i, o, ho, hd⟩ := hex
     rw [puts_new vs (ops.take m) 0 i r o t ho hd (fun j o' hj hne => (z8 hok (htk i o ho).1).2 j o' t (htk j o' hj).1 hne hd)]
     simp [vs, vsOf, (htk i o ho).1, slot, hd]
    ·
     rw [puts_old vs (ops.take m) 0 r t (fun o ho hd => by obtain ⟨j, hj⟩ := List.getElem?_of_mem ho; exact hex ⟨j, o, hj, hd⟩)]
     refine hold t (fun i o ho hd => ?_)
     rcases Nat.lt_or_ge i m with g | g
     · exact absurd ⟨i, o, by rw [List.getElem?_take, if_pos g]; exact ho, hd⟩ hex
     · exact hnot i g
   have hw := fin vs hs w (fun i o hi ho => by
    have := hT i o ho
    rw [if_pos (hall i hi)] at this
    have hvs : vs i = slot r' o := by simp only [vs, vsOf, ho]
    rw [hvs]
    rcases this with ⟨_, h⟩ | ⟨hn, h⟩
    · exact h
    · unfold slot; rw [hn]; exact h) (fun i hi hl => by
    have := hT i _ (List.getElem?_eq_getElem hl)
    rw [if_neg (by rw [hnot i hi]; simp)] at this; exact this) hH
   rw [← e] at hw
   have hcount : ops.length - m ≤ (List.range ops.length).countP (fun i => !listed.getD i false) := by
    have : List.range ops.length = List.range m ++ List.range' m (ops.length - m) := by
     have := List.range'_append_1 (s := 0) (m := m) (n := ops.length - m)
     rw [Nat.zero_add] at this
     rw [List.range_eq_range', List.range_eq_range', this]; congr 1; omega
    rw [this, List.countP_append]
    have h2 : (List.range' m (ops.length - m)).countP (fun i => !listed.getD i false) = (List.range' m (ops.length - m)).length := by
     rw [List.countP_eq_length]
     intro i hi
     rw [hnot i (by have := List.mem_range'_1.1 hi; omega)]; rfl
    rw [h2, List.length_range']; omega
   exact hw hok fuel listed hsz hall hnot (by omega)
  intro fuel
  induction fuel with
  | zero =>
   intro listed a w hI hc
   refine fin' 0 listed a w hI hc fun i hi => ?_
   cases hl : listed.getD i false with
   | true => rfl
   | false =>
    have hp : 0 < (List.range ops.length).countP (fun i => !listed.getD i false) := List.countP_pos_iff.2 ⟨i, List.mem_range.2 (by omega), by rw [hl]; rfl⟩
    omega
  | succ fuel ih =>
   intro listed a w hI hc
   by_cases hall : ∀ i, i < m → listed.getD i false = true
   · exact fin' _ listed a w hI hc hall
   refine ⟨fun hr => absurd (fun i hi => ready0 listed hI.1 hr i (by omega)) hall, fun i hi => ?_⟩
   obtain ⟨hsz, hpre, hnot, hcl, r', hs, rfl, hH, hT, hold⟩ := hI
   obtain ⟨h0, o, ho', hdone⟩ := mem_ready.1 hi
   have ho : ops[i]? = some o := by simpa using ho'
   have hlt : i < ops.length := (List.getElem?_eq_some_iff.1 ho).1
   have hli : listed.getD i false = false := by
    have hs : i < listed.size := by omega
    simp [hs] at h0 ⊢; exact h0
   obtain ⟨hdlt, hdist⟩ := z8 hok ho
   have hdeps : ∀ d ∈ depsOf ops i, listed.getD d false = true := by
    intro d hd
    unfold depsOf at hd
    rw [ho] at hd
    obtain ⟨e, he, heq⟩ := List.mem_filterMap.1 hd
    split at heq
    · cases heq; exact hdone e (by simpa using he) (by assumption)
    · cases heq
   have him : i < m := by
    rcases Nat.lt_or_ge i m with g | g
    · exact g
    · exact absurd (fun j hj => anc_trans3 hok hcl _ i j (hsq i j g hlt hj) hdeps) hall
   let G : List (List Hp) := F ++ ((List.range i).map hs ++ (List.range' (i + 1) (ops.length - (i + 1))).map hs)
   have hsplit : List.range ops.length = List.range i ++ i :: List.range' (i + 1) (ops.length - (i + 1)) := by
    rw [List.range_eq_range', List.range_eq_range', show i :: List.range' (i + 1) (ops.length - (i + 1)) = List.range' i (ops.length - i) from by
     rw [show ops.length - i = (ops.length - (i + 1)) + 1 by omega, List.range'_succ]]
    have := List.range'_append_1 (s := 0) (m := i) (n := ops.length - i)
    rw [Nat.zero_add] at this
    rw [this]; congr 1; omega
   have mapsplit : ∀ f : Nat → List Hp, (List.range ops.length).map f = (List.range i).map f ++ f i :: (List.range' (i + 1) (ops.length - (i + 1))).map f := by
    intro f; rw [hsplit]; simp
   have hperm : ∀ f : Nat → List Hp, (F ++ (List.range ops.length).map f).Perm (f i :: (F ++ ((List.range i).map f ++ (List.range' (i + 1) (ops.length - (i + 1))).map f))) := by
    intro f
    rw [mapsplit f, ← List.append_assoc, ← List.append_assoc]
    exact List.perm_middle
   have hhi : hs i = C i := by have := hT i o ho; rw [if_neg (by rw [hli]; simp)] at this; exact this
   have inG : ∀ j, j < ops.length → j ≠ i → hs j ∈ G := by
    intro j hj hne
    refine List.mem_append_right _ ?_
    rcases Nat.lt_or_gt_of_ne hne with h | h
    · exact List.mem_append_left _ (List.mem_map.2 ⟨j, List.mem_range.2 h, rfl⟩)
    · exact List.mem_append_right _ (List.mem_map.2 ⟨j, by rw [List.mem_range'_1]; omega, rfl⟩)
   have subG : ∀ s ∈ G, s ⊆ G.flatten := fun s hs' x hx => List.mem_flatten.2 ⟨s, hs', hx⟩
   have ancNe : ∀ j, listed.getD j false = true → j ≠ i := fun j hj e => by rw [e, hli] at hj; cases hj
   have turn : Turn3 E ops F C Tp N r i r' w G hs := by
    refine ⟨?_, fun s hs' => subG s (List.mem_append_left _ hs'), fun j oj hoj hanc => ?_, fun j hanc => ?_, fun t ht => ?_, fun j oj hoj hne => ?_⟩
    · rw [← hhi]; exact hH.perm (hperm hs).symm
    ·
     have hl := anc_trans3 hok hcl _ i j hanc hdeps
     refine ⟨?_, subG _ (inG j (List.getElem?_eq_some_iff.1 hoj).1 (ancNe j hl))⟩
     have := hT j oj hoj
     rw [if_pos hl] at this
     rcases this with ⟨_, h⟩ | ⟨hn, h⟩
     · exact h
     · unfold slot; rw [hn]; exact h
    ·
     cases hj : ops[j]? with
     | none =>
      exfalso
      unfold anc at hanc
      split at hanc
      · cases hanc
      · simp [depsOf, hj] at hanc
     | some oj =>
      have hnl : listed.getD j false = false := by
       cases hl : listed.getD j false with
       | false => rfl
       | true =>
        have := anc_trans3 hok hcl _ j i hanc (hcl j hl)
        rw [hli] at this; cases this
      have hjl := (List.getElem?_eq_some_iff.1 hj).1
      have hne : j ≠ i := by
       rintro rfl
       have := anc_trans3 hok hcl _ j j hanc hdeps
       rw [hli] at this; cases this
      have := hT j oj hj
      rw [if_neg (by rw [hnl]; simp)] at this
      rw [← this]; exact subG _ (inG j hjl hne)
    ·
     refine hold t (fun j oj hoj hd => ?_)
     rcases ht j oj hoj hd with rfl | hanc
     · exact hli
     ·
      cases hl : listed.getD j false with
      | false => rfl
      | true =>
       have := anc_trans3 hok hcl _ j i hanc (hcl j hl)
       rw [hli] at this; cases this
    ·
     have hG := subG _ (inG j (List.getElem?_eq_some_iff.1 hoj).1 hne)
     have := hT j oj hoj
     cases hl : listed.getD j false with
     | true =>
      rw [if_pos hl] at this
      rcases this with ⟨_, h⟩ | ⟨_, h⟩
      · exact .inr ⟨⟨_, _, h⟩, hG⟩
      · exact .inr ⟨⟨_, _, h⟩, hG⟩
     | false =>
      rw [if_neg (by rw [hl]; simp)] at this
      rw [← this]; exact .inl hG
   have hi0 : m0 ≤ i := by
    rcases Nat.lt_or_ge i m0 with g | g
    · rw [hpre i g] at hli; cases hli
    · exact g
   have hstep := step i o hi0 him ho r' w G hs turn
   have hnext : ∀ (v : Value) (w'' : World), (∃ h', Tp i (match o.dst with | some _ => v | none => undef) h' (msk ops i (vsOf ops r')) ∧ Has E w'' (h' :: G)) →
     wpAny P .any ops.toArray Q fuel (listed.setIfInBounds i true) ((Go.Q.fr N r').put o.dst v) w'' := ?_
   · exact GOK.wp ho' hstep hnext
   rintro v w'' ⟨h', hTi, hH'⟩
   refine ih _ _ _ ⟨by simpa using hsz, fun j hj => by rw [getD_set_ne false (show i ≠ j by omega)]; exact hpre j hj, fun j hj => by rw [getD_set_ne false (show i ≠ j by omega)]; exact hnot j hj, ?_, ?_⟩ ?_
   ·
    intro j hj d hd
    by_cases hji : i = j
    · subst hji; exact getD_set_true (hdeps d hd)
    ·
     rw [getD_set_ne false hji] at hj
     exact getD_set_true (hcl j hj d hd)
   ·
    let hs' : Nat → List Hp := fun j => if j = i then h' else hs j
    have hsG : F ++ ((List.range i).map hs' ++ (List.range' (i + 1) (ops.length - (i + 1))).map hs') = G := by
     have e1 : (List.range i).map hs' = (List.range i).map hs := List.map_congr_left fun j hj => by
      have := List.mem_range.1 hj; simp only [hs']; rw [if_neg (by omega)]
     have e2 : (List.range' (i + 1) (ops.length - (i + 1))).map hs' = (List.range' (i + 1) (ops.length - (i + 1))).map hs := List.map_congr_left fun j hj => by
      have := List.mem_range'_1.1 hj; simp only [hs']; rw [if_neg (by omega)]
     rw [e1, e2]
    have hH2 : Has E w'' (F ++ (List.range ops.length).map hs') := by
     refine hH'.perm ((hperm hs').trans ?_)
     rw [hsG]
     simp [hs']
    have hset : ∀ j, j ≠ i → (listed.setIfInBounds i true).getD j false = listed.getD j false := fun j hj => getD_set_ne false (Ne.symm hj)
    have hseti : (listed.setIfInBounds i true).getD i false = true := by
     have : i < listed.size := by omega
     simp [this]
    cases hd : o.dst with
    | none =>
     refine ⟨r', hs', by rw [fr_put_none], hH2, fun j oj hoj => ?_, fun t ht => hold t fun j oj hoj hdj => ?_⟩
     ·
      by_cases hji : j = i
      ·
       subst hji
       rw [ho] at hoj; cases hoj
       rw [if_pos hseti]
       rw [hd] at hTi
       exact .inr ⟨hd, by simpa [hs'] using hTi⟩
      ·
       rw [hset j hji]
       have := hT j oj hoj
       simpa [hs', hji] using this
     ·
      by_cases hji : j = i
      · subst hji; exact hli
      · have := ht j oj hoj hdj; rwa [hset j hji] at this
    | some d =>
     refine ⟨upd r' d v, hs', by rw [fr_put], hH2, fun j oj hoj => ?_, fun t ht => ?_⟩
     ·
      by_cases hji : j = i
      ·
       subst hji
       rw [ho] at hoj; cases hoj
       rw [if_pos hseti]
       refine .inl ⟨by rw [hd]; rfl, ?_⟩
       rw [hd] at hTi
       rw [msk_upd3 hok ho hd (fun k hk => ancNe k (anc_trans3 hok hcl _ j k hk hdeps))]
       simp only [slot, hd, upd_same, hs', if_true]; exact hTi
      ·
       rw [hset j hji]
       have := hT j oj hoj
       have hne : oj.dst ≠ some d := hdist j oj d hoj hji hd
       have hsl : slot (upd r' d v) oj = slot r' oj := by
        unfold slot
        cases hdj : oj.dst with
        | none => rfl
        | some t => exact upd_ne _ _ (fun e => hne (by rw [hdj, e]))
       cases hlj : listed.getD j false with
       | true =>
        rw [msk_upd3 hok ho hd (fun k hk => ancNe k (anc_trans3 hok hcl _ j k hk (hcl j hlj)))]
        simpa [hs', hji, hsl, hlj] using this
       | false => simpa [hs', hji, hlj] using this
     ·
      have hne : t ≠ d := by
       rintro rfl
       have := ht i o ho hd
       rw [hseti] at this; cases this
      rw [upd_ne _ _ hne]
      refine hold t fun j oj hoj hdj => ?_
      by_cases hji : j = i
      · subst hji; exact hli
      · have := ht j oj hoj hdj; rwa [hset j hji] at this
   ·
    have : (List.range ops.length).countP (fun j => !(listed.setIfInBounds i true).getD j false) < (List.range ops.length).countP (fun j => !listed.getD j false) := by
     have hset : ∀ j, j ≠ i → (listed.setIfInBounds i true).getD j false = listed.getD j false := fun j hj => getD_set_ne false (Ne.symm hj)
     have hseti : (listed.setIfInBounds i true).getD i false = true := by
      have : i < listed.size := by omega
      simp [this]
     rw [hsplit, List.countP_append, List.countP_cons, List.countP_append, List.countP_cons, hseti, hli]
     have e1 : (List.range i).countP (fun j => !(listed.setIfInBounds i true).getD j false) = (List.range i).countP (fun j => !listed.getD j false) :=
      List.countP_congr fun j hj => by have := List.mem_range.1 hj; rw [hset j (by omega)]
     have e2 : (List.range' (i + 1) (ops.length - (i + 1))).countP (fun j => !(listed.setIfInBounds i true).getD j false) = (List.range' (i + 1) (ops.length - (i + 1))).countP (fun j => !listed.getD j false) :=
      List.countP_congr fun j hj => by have := List.mem_range'_1.1 hj; rw [hset j (by omega)]
     rw [e1, e2]; simp
    omega
 have h0 : Inv listed0 (Go.Q.fr N r) w := by
  refine ⟨hsz0, hall0, fun i hi => hnot0 i (by omega), fun i hi d hd => ?_, r, C, rfl, H, fun i o ho => ?_, fun _ _ => rfl⟩
  ·
   have hi0 : i < m0 := by
    rcases Nat.lt_or_ge i m0 with g | g
    · exact g
    · rw [hnot0 i g] at hi; cases hi
   have := (z8 hok (List.getElem?_eq_getElem (show i < ops.length by omega))).1 d hd
   exact hall0 d (by omega)
  ·
   rcases Nat.lt_or_ge i m0 with g | g
   ·
    rw [if_pos (hall0 i g)]
    have hd := done0 i o g ho
    cases hdd : o.dst with
    | none => exact .inr ⟨rfl, by unfold slot at hd; rw [hdd] at hd; exact hd⟩
    | some t => exact .inl ⟨rfl, hd⟩
   · rw [if_neg (by rw [hnot0 i g]; simp)]
 refine key _ _ _ _ h0 ?_
 have e0 : List.range ops.length = List.range m0 ++ List.range' m0 (ops.length - m0) := by
  have := List.range'_append_1 (s := 0) (m := m0) (n := ops.length - m0)
  rw [Nat.zero_add] at this
  rw [List.range_eq_range', List.range_eq_range', this]; congr 1; omega
 rw [e0, List.countP_append]
 have e1 : (List.range m0).countP (fun i => !listed0.getD i false) = 0 := by
  rw [List.countP_eq_zero]
  intro i hi
  rw [hall0 i (List.mem_range.1 hi)]; simp
 have e2 : (List.range' m0 (ops.length - m0)).countP (fun i => !listed0.getD i false) ≤ ops.length - m0 := Nat.le_trans List.countP_le_length (by rw [List.length_range']; exact Nat.le_refl _)
 omega
end Go.Q
namespace Go.Q
section
variable {P : Program} {ops : List Oper} {Q : Exit → Act → World → Prop}
/-- One operation, wanted or not. -/
def okOp (P : Program) (ops : List Oper) (i : Nat) (K : Act → World → Prop) (a : Act) (w : World) : Prop :=
 ∃ o, ops[i]? = some o ∧ ((Region.wanted o (yielded ops.toArray a.tmps) = true ∧ OK P o a.eval w fun v w' => K (a.put o.dst v) w') ∨ (Region.wanted o (yielded ops.toArray a.tmps) = false ∧ K (a.put o.dst undef) w))
theorem okOp.mono {i : Nat} {K K' : Act → World → Prop} {a : Act} {w : World} (h : okOp P ops i K a w) (hk : ∀ a w, K a w → K' a w) : okOp P ops i K' a w := by
 obtain ⟨o, ho, ⟨h1, h2⟩ | ⟨h1, h2⟩⟩ := h
 · exact ⟨o, ho, .inl ⟨h1, h2.mono fun v w' => hk _ _⟩⟩
 · exact ⟨o, ho, .inr ⟨h1, hk _ _ h2⟩⟩
theorem okOp.wp {i : Nat} {K : Act → World → Prop} {a : Act} {w : World} (h : okOp P ops i K a w) : wpOp P ops.toArray Q i K a w := by
 obtain ⟨o, ho, h⟩ := h
 unfold wpOp
 rw [show ops.toArray[i]? = some o by simpa using ho]
 rcases h with ⟨h1, h2⟩ | ⟨h1, h2⟩
 · simp only [h1, if_true]; exact .inl h2.wp
 · simp only [h1, Bool.false_eq_true, if_false]; exact h2
def allB (hi : Nat) (l : Array Bool) : Bool := (List.range hi).all fun i => l.getD i false
/-- All orders of the phase that ends ahead of hi, n operations are left; I holds all the way. -/
def anyI (P : Program) (ops : List Oper) (hi : Nat) (K : Act → World → Prop) (I : World → Prop) : Nat → Array Bool → Act → World → Prop
 | 0, l, a, w => I w ∧ allB hi l = true ∧ K a w
 | n + 1, l, a, w => I w ∧ allB hi l = false ∧ ∀ i ∈ Region.ready .any ops.toArray l, i < hi → okOp P ops i (anyI P ops hi K I n (l.setIfInBounds i true)) a w
theorem anyI.inv {hi : Nat} {K : Act → World → Prop} {I : World → Prop} : ∀ {n : Nat} {l : Array Bool} {a : Act} {w : World}, anyI P ops hi K I n l a w → I w
 | 0, _, _, _, h => h.1
 | _ + 1, _, _, _, h => h.1
/-- It gives this value wherever I holds, and changes nothing. -/
def YI (P : Program) (ops : List Oper) (o : Oper) (v : Value) (a : Act) (I : World → Prop) : Prop :=
 (Region.wanted o (yielded ops.toArray a.tmps) = true ∧ ∀ w, I w → OK P o a.eval w fun v' w' => v' = v ∧ w' = w) ∨ (Region.wanted o (yielded ops.toArray a.tmps) = false ∧ v = undef)
theorem OK.congr {o : Oper} {ρ ρ' : Operand → Value} {w : World} {K : Value → World → Prop} (h : execOp ρ' o = execOp ρ o) (k : OK P o ρ w K) : OK P o ρ' w K := by
 unfold OK at *; rw [h]; exact k
theorem YI.same {o : Oper} {v : Value} {a a' : Act} {I : World → Prop} (h : YI P ops o v a I) (he : execOp a'.eval o = execOp a.eval o) (hw : Region.wanted o (yielded ops.toArray a'.tmps) = Region.wanted o (yielded ops.toArray a.tmps)) : YI P ops o v a' I := by
 unfold YI at *
 rw [hw]
 exact h.imp (fun g => ⟨g.1, fun w hI => (g.2 w hI).congr he⟩) id
theorem YI.ok {i : Nat} {o : Oper} {v : Value} {a : Act} {I : World → Prop} {K : Act → World → Prop} {w : World} (hi : ops[i]? = some o) (h : YI P ops o v a I) (hI : I w) (hk : K (a.put o.dst v) w) : okOp P ops i K a w := by
 refine ⟨o, hi, ?_⟩
 rcases h with ⟨h1, h2⟩ | ⟨h1, rfl⟩
 · exact .inl ⟨h1, (h2 w hI).mono fun v' w' ⟨e1, e2⟩ => by rw [e1, e2]; exact hk⟩
 · exact .inr ⟨h1, hk⟩
theorem okOp_put {j : Nat} {oi oj : Oper} {v : Value} {I : World → Prop} (hj : ops[j]? = some oj) (hap : oi.apart ops.toArray oj = true) (hsi : ∀ cs b, oi.op ≠ .select cs b) (hsj : ∀ cs b, oj.op ≠ .select cs b)
  {K : Act → World → Prop} {a : Act} {w : World} (hy : YI P ops oi v a I) (h : okOp P ops j K (a.put oi.dst v) w) : okOp P ops j (fun a' w' => YI P ops oi v a' I ∧ K (a'.put oi.dst v) w') a w := by
 obtain ⟨h1, h2, h3⟩ := Oper.apart_spec hap
 have keep : ∀ u, YI P ops oi v (a.put oj.dst u) I := fun u => hy.same (execOp_put oi hsi a oj.dst u h3) (wanted_put oi a oj.dst u h3)
 obtain ⟨o, ho, h⟩ := h
 obtain rfl : o = oj := Option.some.inj (ho.symm.trans hj)
 refine ⟨o, ho, ?_⟩
 rw [wanted_put o a oi.dst v h1] at h
 rcases h with ⟨g1, g2⟩ | ⟨g1, g2⟩
 ·
  refine .inl ⟨g1, OK.congr (execOp_put o hsj a oi.dst v h1).symm (g2.mono fun u w' hk => ⟨keep u, ?_⟩)⟩
  rw [← Act.put_comm a v u h2]; exact hk
 ·
  refine .inr ⟨g1, keep _, ?_⟩
  rw [← Act.put_comm a v undef h2]; exact g2
theorem ready_un {i : Nat} {l : Array Bool} (h : i ∈ Region.ready .any ops.toArray l) : l.getD i false = false ∧ i < l.size := by
 have h0 := (mem_ready.1 h).1
 rcases Nat.lt_or_ge i l.size with g | g
 ·
  refine ⟨?_, g⟩
  simp [g] at h0 ⊢; exact h0
 · simp [Array.getElem?_eq_none g] at h0
theorem allB_un {hi i : Nat} {l : Array Bool} (h : l.getD i false = false) (hlt : i < hi) : allB hi l = false := by
 cases e : allB hi l with
 | false => rfl
 | true =>
  unfold allB at e
  rw [List.all_eq_true] at e
  have := e i (List.mem_range.2 hlt)
  rw [h] at this; cases this
theorem anyI_first {hi i : Nat} {oi : Oper} {v : Value} {K : Act → World → Prop} {I : World → Prop} (hoi : ops[i]? = some oi) (hlt : i < hi) (hsel : ∀ (j : Nat) (o : Oper) cs b, ops[j]? = some o → o.op ≠ .select cs b) :
  ∀ (n : Nat) (l : Array Bool) (a : Act) (w : World),
   (∀ j oj, ops[j]? = some oj → j ≠ i → l.getD j true = false → (∀ e ∈ oj.after, Region.binds .any e = true → e.on ≠ i) → oi.apart ops.toArray oj = true) →
   i ∈ Region.ready .any ops.toArray l → YI P ops oi v a I → anyI P ops hi K I n (l.setIfInBounds i true) (a.put oi.dst v) w → anyI P ops hi K I (n + 1) l a w := by
 intro n
 induction n with
 | zero =>
  intro l a w _ hr hy H
  have hu := ready_un hr
  refine ⟨H.inv, allB_un hu.1 hlt, fun j hj hjh => ?_⟩
  by_cases hji : j = i
  · subst hji; exact hy.ok hoi H.inv H
  ·
   have h2 := ready_un (ready_mono hj hji)
   have := allB_un h2.1 hjh
   rw [H.2.1] at this; cases this
 | succ n ih =>
  intro l a w hfree hr hy H
  have hu := ready_un hr
  refine ⟨H.inv, allB_un hu.1 hlt, fun j hj hjh => ?_⟩
  by_cases hji : j = i
  · subst hji; exact hy.ok hoi H.inv H
  ·
   have h1 := H.2.2 j (ready_mono hj hji) hjh
   obtain ⟨hjun, oj, hoj, hall⟩ := mem_ready.1 hj
   have hoj' : ops[j]? = some oj := by simpa using hoj
   have hnot : ∀ e ∈ oj.after, Region.binds .any e = true → e.on ≠ i := fun e he hb heq => by
    have h1 := hall e he hb
    rw [heq, hu.1] at h1; cases h1
   have h2 := okOp_put hoj' (hfree j oj hoj' hji hjun hnot) (fun cs b => hsel i oi cs b hoi) (fun cs b => hsel j oj cs b hoj') hy h1
   have hfree' : ∀ k ok, ops[k]? = some ok → k ≠ i → (l.setIfInBounds j true).getD k true = false → (∀ e ∈ ok.after, Region.binds .any e = true → e.on ≠ i) → oi.apart ops.toArray ok = true := fun k ok hk hki hun hno => by
    refine hfree k ok hk hki ?_ hno
    by_cases hjk : j = k
    · subst hjk; exact hjun
    · rw [getD_set_ne true hjk] at hun; exact hun
   refine h2.mono fun a' w' h3 => ih (l.setIfInBounds j true) a' w' hfree' (ready_mono hr (Ne.symm hji)) h3.1 ?_
   rw [Array.setIfInBounds_comm _ _ hji]
   exact h3.2
theorem anyI_wp {hi : Nat} {I : World → Prop} (hok : flowOk3 ops = true) (hbar : barB ops hi = true) (hhi : hi ≤ ops.length) : ∀ (n fuel : Nat) (l : Array Bool) (a : Act) (w : World), l.size = ops.length → (∀ i, hi ≤ i → l.getD i false = false) →
  (∀ i, l.getD i false = true → ∀ d ∈ depsOf ops i, l.getD d false = true) → n + (ops.length - hi) ≤ fuel → anyI P ops hi (Rest P Q ops hi) I n l a w → wpAny P .any ops.toArray Q fuel l a w
 | 0, fuel, l, a, w, hsz, hnot, _, hf, h => by
  refine h.2.2 hok fuel l hsz (fun i hi' => ?_) hnot (by omega)
  have := h.2.1
  unfold allB at this
  rw [List.all_eq_true] at this
  exact this i (List.mem_range.2 hi')
 | n + 1, fuel, l, a, w, hsz, hnot, hcl, hf, h => by
  obtain ⟨f, rfl⟩ : ∃ f, fuel = f + 1 := ⟨fuel - 1, by omega⟩
  obtain ⟨_, hall, hr⟩ := h
  obtain ⟨m, hm, hum, hmin⟩ : ∃ m, m < hi ∧ l.getD m false = false ∧ ∀ j, j < m → l.getD j false = true := by
   unfold allB at hall
   rw [List.all_eq_false] at hall
   obtain ⟨x, hx, hxu⟩ := hall
   have hx' : x < hi := List.mem_range.1 hx
   have hxu' : l.getD x false = false := by simpa using hxu
   clear hxu hx
   induction x using Nat.strongRecOn with
   | ind x ih =>
    by_cases g : ∃ j, j < x ∧ l.getD j false = false
    · obtain ⟨j, hj, hju⟩ := g; exact ih j hj (by omega) hju
    ·
     exact ⟨x, hx', hxu', fun j hj => by
      cases e : l.getD j false with
      | true => rfl
      | false => exact absurd ⟨j, hj, e⟩ g⟩
  have hml : m < ops.length := by omega
  have hmr : m ∈ Region.ready .any ops.toArray l := by
   refine mem_ready.2 ⟨?_, ops[m], by simp [hml], fun e he hb => ?_⟩
   ·
    have hs : m < l.size := by omega
    simp [hs] at hum ⊢; exact hum
   ·
    have hd := mem_depsOf (List.getElem?_eq_getElem hml) he hb
    exact hmin _ ((z8 hok (List.getElem?_eq_getElem hml)).1 _ hd)
  refine ⟨fun g => (by rw [g] at hmr; cases hmr), fun i hi' => ?_⟩
  obtain ⟨hiu, his⟩ := ready_un hi'
  obtain ⟨_, o, ho, hdone⟩ := mem_ready.1 hi'
  have ho' : ops[i]? = some o := by simpa using ho
  have hdeps : ∀ d ∈ depsOf ops i, l.getD d false = true := by
   intro d hd
   unfold depsOf at hd
   rw [ho'] at hd
   obtain ⟨e, he, heq⟩ := List.mem_filterMap.1 hd
   split at heq
   · cases heq; exact hdone e (by simpa using he) (by assumption)
   · cases heq
  have hih : i < hi := by
   rcases Nat.lt_or_ge i hi with g | g
   · exact g
   ·
    have := anc_trans3 hok hcl _ i m (barB_spec hbar i m g (by omega) hm) hdeps
    rw [hum] at this; cases this
  refine wpOp_mono ?_ (hr i hi' hih).wp
  intro a' w' h'
  refine anyI_wp hok hbar hhi n f _ a' w' (by simpa using hsz) (fun j hj => ?_) (fun j hj d hd => ?_) (by omega) h'
  · rw [getD_set_ne false (show i ≠ j by omega)]; exact hnot j hj
  ·
   by_cases e : i = j
   · subst e; exact getD_set_true (hdeps d hd)
   · rw [getD_set_ne false e] at hj; exact getD_set_true (hcl j hj d hd)
def prefB (lo n : Nat) : Array Bool := (List.replicate lo true ++ List.replicate (n - lo) false).toArray
def freeB (ops : List Oper) (hi : Nat) (l : Array Bool) (k : Nat) : Bool := Region.noSelect ops.toArray && Region.free .any ops.toArray l k && (Region.ready .any ops.toArray l).contains k && decide (k < hi)
def onlyB (ops : List Oper) (hi : Nat) (l : Array Bool) (k : Nat) : Bool := (Region.ready .any ops.toArray l).all (fun i => i == k || decide (hi ≤ i)) && (Region.ready .any ops.toArray l).contains k && decide (k < hi)
theorem Rest.phaseA {N : Nat} {r : Nat → Value} {w : World} (I : World → Prop) (lo hi m : Nat) (hm : lo + m = hi) (hhi : decide (hi ≤ ops.length) = true) (hbar : barB ops hi = true)
  (h : anyI P ops hi (Rest P Q ops hi) I m (prefB lo ops.length) (Go.Q.fr N r) w) : Rest P Q ops lo (Go.Q.fr N r) w := by
 intro hok fuel listed hsz hall hnot hf
 have hhi := of_decide_eq_true hhi
 have e : listed = prefB lo ops.length := by
  unfold prefB
  apply Array.ext
  · simp [hsz]; omega
  ·
   intro i h1 h2
   rcases Nat.lt_or_ge i lo with g | g
   ·
    have := hall i g
    simp [h1] at this
    rw [this]; simp [List.getElem_append, g]
   ·
    have := hnot i g
    simp [h1] at this
    rw [this]; simp [List.getElem_append, Nat.not_lt.2 g]
 subst e
 refine anyI_wp hok hbar hhi m fuel _ _ w hsz (fun i hi' => hnot i (by omega)) (fun i hi' d hd => ?_) (by omega) h
 have hil : i < lo := by
  rcases Nat.lt_or_ge i lo with g | g
  · exact g
  · rw [hnot i g] at hi'; cases hi'
 have := (z8 hok (List.getElem?_eq_getElem (show i < ops.length by omega))).1 d hd
 exact hall d (by omega)
section
variable {hi : Nat} {K : Act → World → Prop} {I : World → Prop} {N n : Nat} {l : Array Bool} {r : Nat → Value} {w : World}
theorem zQ {a : Act} (h : allB hi l = true) (hI : I w) (hk : K a w) : anyI P ops hi K I 0 l a w := ⟨hI, h, hk⟩
theorem freeB_spec {k : Nat} (h : freeB ops hi l k = true) : Region.noSelect ops.toArray = true ∧ Region.free .any ops.toArray l k = true ∧ k ∈ Region.ready .any ops.toArray l ∧ k < hi := by
 unfold freeB at h
 simp only [Bool.and_eq_true, decide_eq_true_eq, List.contains_iff_mem] at h
 exact ⟨h.1.1.1, h.1.1.2, h.1.2, h.2⟩
theorem onlyB_spec {k : Nat} (h : onlyB ops hi l k = true) : (∀ i ∈ Region.ready .any ops.toArray l, i < hi → i = k) ∧ k ∈ Region.ready .any ops.toArray l ∧ k < hi := by
 unfold onlyB at h
 simp only [Bool.and_eq_true, decide_eq_true_eq, List.contains_iff_mem, List.all_eq_true, Bool.or_eq_true, beq_iff_eq] at h
 exact ⟨fun i hi' hlt => (h.1.1 i hi').elim id fun g => by omega, h.1.2, h.2⟩
theorem a_first {k : Nat} {o : Oper} {v : Value} {a : Act} (ho : ops[k]? = some o) (hf : freeB ops hi l k = true) (hy : YI P ops o v a I) (h : anyI P ops hi K I n (l.setIfInBounds k true) (a.put o.dst v) w) : anyI P ops hi K I (n + 1) l a w := by
 obtain ⟨h1, h2, h3, h4⟩ := freeB_spec hf
 have ho' : ops.toArray[k]? = some o := by simpa using ho
 exact anyI_first ho h4 (fun j o cs b hj => Region.noSelect_spec h1 j o cs b (by simpa using hj)) n l a w (fun j oj hj => Region.free_spec ho' h2 j oj (by simpa using hj)) h3 hy h
theorem zr {d : Nat} {op : Op} {T : TypeId} {pos : String} {after : Array Edge} {v : Value} (k : Nat) (ho : ops[k]? = some ⟨some d, op, T, pos, after, none⟩) (hf : freeB ops hi l k = true)
  (hv : ∀ w', I w' → OK P ⟨some d, op, T, pos, after, none⟩ (ev N r) w' fun v' w'' => v' = v ∧ w'' = w') (h : anyI P ops hi K I n (l.setIfInBounds k true) (Go.Q.fr N (upd r d v)) w) : anyI P ops hi K I (n + 1) l (Go.Q.fr N r) w := by
 refine a_first ho hf (.inl ⟨by simp [Region.wanted], fun w' hI => ?_⟩) (v := v) (by rw [fr_put]; exact h)
 rw [fr_eval]; exact hv w' hI
theorem a_on {d : Nat} {op : Op} {T : TypeId} {pos : String} {after : Array Edge} {g : Nat} {b : Bool} {v : Value} (k : Nat) (ho : ops[k]? = some ⟨some d, op, T, pos, after, some (g, b)⟩) (hf : freeB ops hi l k = true) (t : Nat) (hgt : dstOf ops g = some t) (hg : ev N r (.tmp t) = .bool b)
  (hv : ∀ w', I w' → OK P ⟨some d, op, T, pos, after, some (g, b)⟩ (ev N r) w' fun v' w'' => v' = v ∧ w'' = w') (h : anyI P ops hi K I n (l.setIfInBounds k true) (Go.Q.fr N (upd r d v)) w) : anyI P ops hi K I (n + 1) l (Go.Q.fr N r) w := by
 refine a_first ho hf (.inl ⟨?_, fun w' hI => ?_⟩) (v := v) (by rw [fr_put]; exact h)
 ·
  obtain ⟨og, h1, h2⟩ := dstOf_spec ops g hgt
  rw [wanted_fr h1 h2 hg]; simp
 · rw [fr_eval]; exact hv w' hI
theorem yf {d : Nat} {op : Op} {T : TypeId} {pos : String} {after : Array Edge} {g : Nat} {b b' : Bool} (k : Nat) (ho : ops[k]? = some ⟨some d, op, T, pos, after, some (g, b)⟩) (hf : freeB ops hi l k = true) (t : Nat) (hgt : dstOf ops g = some t) (hg : ev N r (.tmp t) = .bool b') (hne : (b' == b) = false)
  (h : anyI P ops hi K I n (l.setIfInBounds k true) (Go.Q.fr N (upd r d undef)) w) : anyI P ops hi K I (n + 1) l (Go.Q.fr N r) w := by
 refine a_first ho hf (.inr ⟨?_, rfl⟩) (by rw [fr_put]; exact h)
 obtain ⟨og, h1, h2⟩ := dstOf_spec ops g hgt
 rw [wanted_fr h1 h2 hg, hne]
theorem a_only {k : Nat} {o : Oper} {a : Act} (ho : ops[k]? = some o) (hr : onlyB ops hi l k = true) (hI : I w) (h : okOp P ops k (anyI P ops hi K I n (l.setIfInBounds k true)) a w) : anyI P ops hi K I (n + 1) l a w := by
 obtain ⟨h1, h2, h3⟩ := onlyB_spec hr
 exact ⟨hI, allB_un (ready_un h2).1 h3, fun i hi' hlt => by rw [h1 i hi' hlt]; exact h⟩
theorem a_w {d : Nat} {op : Op} {T : TypeId} {pos : String} {after : Array Edge} (k : Nat) (ho : ops[k]? = some ⟨some d, op, T, pos, after, none⟩) (hr : onlyB ops hi l k = true) (hI : I w)
  (h : OK P ⟨some d, op, T, pos, after, none⟩ (ev N r) w fun v w' => anyI P ops hi K I n (l.setIfInBounds k true) (Go.Q.fr N (upd r d v)) w') : anyI P ops hi K I (n + 1) l (Go.Q.fr N r) w := by
 refine a_only ho hr hI ⟨_, ho, .inl ⟨by simp [Region.wanted], ?_⟩⟩
 rw [fr_eval]; exact h.mono fun v w' hh => by rw [fr_put]; exact hh
theorem a_we {op : Op} {T : TypeId} {pos : String} {after : Array Edge} (k : Nat) (ho : ops[k]? = some ⟨none, op, T, pos, after, none⟩) (hr : onlyB ops hi l k = true) (hI : I w)
  (h : OK P ⟨none, op, T, pos, after, none⟩ (ev N r) w fun _ w' => anyI P ops hi K I n (l.setIfInBounds k true) (Go.Q.fr N r) w') : anyI P ops hi K I (n + 1) l (Go.Q.fr N r) w := by
 refine a_only ho hr hI ⟨_, ho, .inl ⟨by simp [Region.wanted], ?_⟩⟩
 rw [fr_eval]; exact h
theorem a_won {d : Nat} {op : Op} {T : TypeId} {pos : String} {after : Array Edge} {g : Nat} {b : Bool} (k : Nat) (ho : ops[k]? = some ⟨some d, op, T, pos, after, some (g, b)⟩) (hr : onlyB ops hi l k = true) (hI : I w) (t : Nat) (hgt : dstOf ops g = some t) (hg : ev N r (.tmp t) = .bool b)
  (h : OK P ⟨some d, op, T, pos, after, some (g, b)⟩ (ev N r) w fun v w' => anyI P ops hi K I n (l.setIfInBounds k true) (Go.Q.fr N (upd r d v)) w') : anyI P ops hi K I (n + 1) l (Go.Q.fr N r) w := by
 refine a_only ho hr hI ⟨_, ho, .inl ⟨?_, ?_⟩⟩
 ·
  obtain ⟨og, h1, h2⟩ := dstOf_spec ops g hgt
  rw [wanted_fr h1 h2 hg]; simp
 · rw [fr_eval]; exact h.mono fun v w' hh => by rw [fr_put]; exact hh
def twoB (ops : List Oper) (hi : Nat) (l : Array Bool) (k k2 : Nat) : Bool := (Region.ready .any ops.toArray l).all (fun i => i == k || i == k2 || decide (hi ≤ i)) && (Region.ready .any ops.toArray l).contains k && decide (k < hi)
/-- Two that change the world are ready: whichever comes first. -/
theorem a_two {a : Act} (k k2 : Nat) (hr : twoB ops hi l k k2 = true) (hI : I w) (h1 : okOp P ops k (anyI P ops hi K I n (l.setIfInBounds k true)) a w) (h2 : okOp P ops k2 (anyI P ops hi K I n (l.setIfInBounds k2 true)) a w) : anyI P ops hi K I (n + 1) l a w := by
 unfold twoB at hr
 simp only [Bool.and_eq_true, decide_eq_true_eq, List.contains_iff_mem, List.all_eq_true, Bool.or_eq_true, beq_iff_eq] at hr
 refine ⟨hI, allB_un (ready_un hr.1.2).1 hr.2, fun i hi' hlt => ?_⟩
 rcases hr.1.1 i hi' with (e | e) | e
 · rw [e]; exact h1
 · rw [e]; exact h2
 · omega
theorem ok_w {K : Act → World → Prop} {d : Nat} {op : Op} {T : TypeId} {pos : String} {after : Array Edge} (k : Nat) (ho : ops[k]? = some ⟨some d, op, T, pos, after, none⟩)
  (h : OK P ⟨some d, op, T, pos, after, none⟩ (ev N r) w fun v w' => K (Go.Q.fr N (upd r d v)) w') : okOp P ops k K (Go.Q.fr N r) w := by
 refine ⟨_, ho, .inl ⟨by simp [Region.wanted], ?_⟩⟩
 rw [fr_eval]; exact h.mono fun v w' hh => by rw [fr_put]; exact hh
end
theorem ix_exF {α : Type} {f : α → List Value} {sz : Nat} (hf : ∀ a, (f a).length = sz) {ls : List α} {a : α} {t e : TypeId} {L : List Hp} {by_ : Nat} {v z : Value} {i : Int} (ht : P.underlying t = some (.slice e)) (hi : TI P e z sz by_)
  (hs : Sl L sz v ls.length (ls.flatMap f)) (h0 : 0 ≤ i) (ha : ls[i.toNat]? = some a) : ∃ b off, CellsAt L b off (f a) ∧ ∀ {ρ : Operand → Value} {dst : Option Tmp} {T : TypeId} {pos : String} {after : Array Edge} {g : Option (Nat × Bool)} {x y : Operand} {k : IntKind} {w : World} {K : Value → World → Prop},
   ρ x = v → ρ y = .int k i → K (.pointer (some ⟨b, off, none⟩)) w → OK P ⟨dst, .indexAddr t x y, T, pos, after, g⟩ ρ w K := by
 have hi' : i.toNat < ls.length := (List.getElem?_eq_some_iff.1 ha).1
 obtain ⟨p, cap, rfl, hnc, hcm, hl, hp⟩ := hs
 obtain ⟨b, off, rfl, hc⟩ := hp (by omega)
 have hc' : CellsAt L b (off + i.toNat * sz) (((ls.flatMap f).drop (i.toNat * sz)).take sz) := hc.sub fun j v hv => by
  rw [List.getElem?_take] at hv
  split at hv
  · rw [List.getElem?_drop] at hv; exact hv
  · cases hv
 rw [flat_part hf ls i.toNat a ha] at hc'
 refine ⟨b, _, hc', fun hx hy hK => OK.val (z7 ?_) hK⟩
 rw [hx, hy]
 simp [Instr.indexAt, asIntOf, run_underlying ht, h0, show i < ls.length by omega, hi.size, add_lit]
end
end Go.Q
namespace Go.Q
section
variable {P : Program} {ops : List Oper} {Q : Exit → Act → World → Prop}
/-- All that a done one waits for is done. -/
def Cl (ops : List Oper) (l : Array Bool) : Prop := ∀ i, l.getD i false = true → ∀ d ∈ depsOf ops i, l.getD d false = true
def anyE (P : Program) (ops : List Oper) (hi : Nat) (K : Act → World → Prop) (I : Array Bool → World → Prop) : Nat → Array Bool → Act → World → Prop
 | 0, l, a, w => I l w ∧ allB hi l = true ∧ K a w
 | n + 1, l, a, w => I l w ∧ allB hi l = false ∧ ∀ i ∈ Region.ready .any ops.toArray l, i < hi → okOp P ops i (anyE P ops hi K I n (l.setIfInBounds i true)) a w
theorem anyE.inv {hi : Nat} {K : Act → World → Prop} {I : Array Bool → World → Prop} : ∀ {n : Nat} {l : Array Bool} {a : Act} {w : World}, anyE P ops hi K I n l a w → I l w
 | 0, _, _, _, h => h.1
 | _ + 1, _, _, _, h => h.1
theorem Cl.set {l : Array Bool} (h : Cl ops l) {j : Nat} (hj : j ∈ Region.ready .any ops.toArray l) : Cl ops (l.setIfInBounds j true) := by
 intro i hi d hd
 by_cases e : j = i
 ·
  subst e
  obtain ⟨_, o, ho, hdone⟩ := mem_ready.1 hj
  have ho' : ops[j]? = some o := by simpa using ho
  unfold depsOf at hd
  rw [ho'] at hd
  obtain ⟨e, he, heq⟩ := List.mem_filterMap.1 hd
  split at heq
  · cases heq; exact getD_set_true (hdone e (by simpa using he) (by assumption))
  · cases heq
 · rw [getD_set_ne false (show j ≠ i from e)] at hi; exact getD_set_true (h i hi d hd)
section
variable {hi k1 : Nat} {K : Act → World → Prop} {E : World} {F G : List (List Hp)} {N n : Nat} {l : Array Bool} {r : Nat → Value} {w : World}
end
end
end Go.Q
namespace Go.Q
open Go.Proofs
set_option linter.unusedVariables false
set_option maxRecDepth 100000
attribute [local irreducible] wpList OK Code.wp
set_option maxHeartbeats 4000000 in
theorem sum_c {E w : World} {R : List Hp} (hH : Has E w [R]) {v : Value} {l : List Int} (hv : Ints R v l) :
  Calls Tryz.prog 198 #[v] w fun e w' => e = .returned (.int .i64 (sumS 0 l)) ∧ Has E w' [R] := by
 have hn := hv.le
 refine zs (args := [v]) Tryz.func198 rfl Tryz.ntmps198 (by simp) ?_
 refine wp_seq_k fun K1 hK1 => ?_
 refine zb ?_
 refine za (ze (v := (.int .i64 0)) rfl ?_)
 refine zf ?_
 refine zc (hK1 _ _ ?_)
 refine wp_seq_k fun K2 hK2 => ?_
 refine zb ?_
 refine za (ze (v := (.int .i64 0)) rfl ?_)
 refine zf ?_
 refine zc (hK2 _ _ ?_)
 refine wp_seq_k fun K3 hK3 => ?_
 refine wp_seq_k fun K4 hK4 => ?_
 refine zb ?_
 refine za (zd (v := v) rfl ?_)
 refine za (zY Tryz.underlying47 rfl hv ?_)
 refine za (zd (v := (.int .i64 0)) rfl ?_)
 refine zf ?_
 refine zc (hK4 _ _ ?_)
 refine wp_block ?_
 let I6 : Nat → (Nat → Value) → World → Prop := fun n__ r__ w__ => ∃ (k : Nat) (y : Int), n__ = l.length - k ∧ Has E w__ [R] ∧ (k ≤ l.length) ∧ (sumS 0 l = sumS y (l.drop k)) ∧ (0 ≤ y ∧ y ≤ 9223372036854775807) ∧ r__ 0 = v ∧ r__ 3 = (.int .i64 y) ∧ r__ 6 = v ∧ r__ 7 = (.int .i64 ((l.length : Nat) : Int)) ∧ r__ 8 = (.int .i64 (k : Int))
 refine zT I6 _ ⟨0, 0, rfl, hH, Nat.zero_le _, rfl, (by omega), rfl, rfl, rfl, rfl, rfl⟩ ?_
 rintro n_ r9 w7 ⟨k, y, rfl, hH8, hk, hy, hb, e5_0, e5_3, e5_6, e5_7, e5_8⟩
 refine wp_seq_k fun K10 hK10 => ?_
 refine zb ?_
 refine za (zL (a := (k : Int)) (b := ((l.length : Nat) : Int)) e5_8 e5_7 ?_)
 refine zf ?_
 refine zc (hK10 _ _ ?_)
 refine wp_seq_k fun K11 hK11 => ?_
 refine zt rfl (fun h12 => ?_) (fun h12 => ?_)
 ·
  refine wp_skip ?_
  refine zc (hK11 _ _ ?_)
  refine wp_seq_k fun K13 hK13 => ?_
  refine wp_block ?_
  refine wp_seq_k fun K14 hK14 => ?_
  refine zb ?_
  obtain ⟨x18, hx19⟩ : ∃ x_, l[((k : Int)).toNat]? = some x_ := zM (by omega)
  refine za (yc Tryz.underlying47 ti3 e5_6 hv e5_8 (by omega) hx19 fun b15 o16 hc17 => ?_)
  refine za (zj (v := (.int .i64 x18)) Tryz.underlying3 rfl rfl hH8 (zh 0 rfl) hc17 ?_)
  refine za (ze (v := (.int .i64 x18)) rfl ?_)
  refine zf ?_
  refine zc (hK14 _ _ ?_)
  refine wp_seq_k fun K20 hK20 => ?_
  refine wp_seq_k fun K21 hK21 => ?_
  refine zb ?_
  refine za (zd (v := (.int .i64 x18)) rfl ?_)
  refine za (zd (v := (.int .i64 y)) e5_3 ?_)
  refine za (o_sub (a := 9223372036854775807) (b := y) rfl rfl (w64 (by omega) (by omega)) ?_)
  refine za (o_gtr (a := x18) (b := 9223372036854775807 - y) rfl rfl ?_)
  refine zf ?_
  refine zc (hK21 _ _ ?_)
  refine zt rfl (fun h22 => ?_) (fun h22 => ?_)
  ·
   refine wp_seq_k fun K23 hK23 => ?_
   refine zb ?_
   refine za (ze (v := (.int .i64 9223372036854775807)) rfl ?_)
   refine zf ?_
   refine zc (hK23 _ _ ?_)
   refine wp_ret ?_
   refine zv (b_ret (zv (zv (b_ret (zv (zq Tryz.results198  (v := (.int .i64 9223372036854775807)) rfl ?_))))))
   exact ⟨by rw [hy, drop_of (by simpa using hx19), sumS, if_pos (by omega)], hH8⟩
  ·
   refine wp_skip ?_
   refine zc (hK20 _ _ ?_)
   refine zb ?_
   refine za (zd (v := (.int .i64 y)) e5_3 ?_)
   refine za (zd (v := (.int .i64 x18)) rfl ?_)
   refine za (o_max (a := x18) (b := 0) rfl rfl ?_)
   refine za (zH (a := y) (b := max x18 0) rfl rfl (w64 (by omega) (by omega)) ?_)
   refine za (ze (v := (.int .i64 (y + (max x18 0)))) rfl ?_)
   refine zf ?_
   refine zG ?_
   refine zc (hK13 _ _ ?_)
   refine zb ?_
   refine za (zH (a := (k : Int)) (b := 1) e5_8 rfl (w64 (by omega) (by omega)) ?_)
   refine za (zd (v := (.int .i64 ((k : Int) + 1))) rfl ?_)
   refine zf ?_
   refine zc ⟨l.length - (k + 1), _, rfl, ?_, ?_⟩
   · omega
   · exact ⟨(k + 1), (y + (max x18 0)), rfl, hH8, (by omega), (by rw [hy, drop_of (by simpa using hx19), sumS, if_neg (by omega)]), (by omega), e5_0, rfl, e5_6, e5_7, rfl⟩
 ·
  refine wp_exit ?_
  refine zx (zx (x_in (?_)))
  refine zc (hK3 _ _ ?_)
  refine wp_seq_k fun K24 hK24 => ?_
  refine zb ?_
  refine za (zd (v := (.int .i64 y)) e5_3 ?_)
  refine za (ze (v := (.int .i64 y)) rfl ?_)
  refine zf ?_
  refine zc (hK24 _ _ ?_)
  refine wp_ret ?_
  refine zq Tryz.results198  (v := (.int .i64 y)) rfl ?_
  exact ⟨by rw [hy, List.drop_of_length_le (by omega)]; rfl, hH8⟩
set_option maxHeartbeats 4000000 in
theorem most_c {E w : World} {R : List Hp} (hH : Has E w [R]) (x : Int) {v : Value} {l : List Int} (hv : Ints R v l) :
  Calls Tryz.prog 117 #[(.int .i64 x), v] w fun e w' => e = .returned (.int .i64 (l.foldl max x)) ∧ Has E w' [R] := by
 have hn := hv.le
 refine zs (args := [(.int .i64 x), v]) Tryz.func117 rfl Tryz.ntmps117 (by simp) ?_
 refine wp_seq_k fun K1 hK1 => ?_
 refine zb ?_
 refine za (ze (v := (.int .i64 0)) rfl ?_)
 refine zf ?_
 refine zc (hK1 _ _ ?_)
 refine wp_seq_k fun K2 hK2 => ?_
 refine wp_seq_k fun K3 hK3 => ?_
 refine zb ?_
 refine za (zd (v := v) rfl ?_)
 refine za (zY Tryz.underlying47 rfl hv ?_)
 refine za (zd (v := (.int .i64 0)) rfl ?_)
 refine zf ?_
 refine zc (hK3 _ _ ?_)
 refine wp_block ?_
 let I5 : Nat → (Nat → Value) → World → Prop := fun n__ r__ w__ => ∃ (k : Nat) (y : Int), n__ = l.length - k ∧ Has E w__ [R] ∧ (k ≤ l.length) ∧ (y = (l.take k).foldl max x) ∧ r__ 0 = (.int .i64 y) ∧ r__ 1 = v ∧ r__ 4 = (.int .i64 0) ∧ r__ 7 = v ∧ r__ 8 = (.int .i64 ((l.length : Nat) : Int)) ∧ r__ 9 = (.int .i64 (k : Int))
 refine zT I5 _ ⟨0, x, rfl, hH, Nat.zero_le _, rfl, rfl, rfl, rfl, rfl, rfl, rfl⟩ ?_
 rintro n_ r8 w6 ⟨k, y, rfl, hH7, hk, hy, e4_0, e4_1, e4_4, e4_7, e4_8, e4_9⟩
 refine wp_seq_k fun K9 hK9 => ?_
 refine zb ?_
 refine za (zL (a := (k : Int)) (b := ((l.length : Nat) : Int)) e4_9 e4_8 ?_)
 refine zf ?_
 refine zc (hK9 _ _ ?_)
 refine wp_seq_k fun K10 hK10 => ?_
 refine zt rfl (fun h11 => ?_) (fun h11 => ?_)
 ·
  refine wp_skip ?_
  refine zc (hK10 _ _ ?_)
  refine wp_seq_k fun K12 hK12 => ?_
  refine wp_block ?_
  refine wp_seq_k fun K13 hK13 => ?_
  refine zb ?_
  obtain ⟨x17, hx18⟩ : ∃ x_, l[((k : Int)).toNat]? = some x_ := zM (by omega)
  refine za (yc Tryz.underlying47 ti3 e4_7 hv e4_9 (by omega) hx18 fun b14 o15 hc16 => ?_)
  refine za (zj (v := (.int .i64 x17)) Tryz.underlying3 rfl rfl hH7 (zh 0 rfl) hc16 ?_)
  refine za (ze (v := (.int .i64 x17)) rfl ?_)
  refine zf ?_
  refine zc (hK13 _ _ ?_)
  refine zb ?_
  refine za (zd (v := (.int .i64 y)) e4_0 ?_)
  refine za (zd (v := (.int .i64 x17)) rfl ?_)
  refine za (o_max (a := y) (b := x17) rfl rfl ?_)
  refine za (ze (v := (.int .i64 (max y x17))) rfl ?_)
  refine zf ?_
  refine zG ?_
  refine zc (hK12 _ _ ?_)
  refine zb ?_
  refine za (zH (a := (k : Int)) (b := 1) e4_9 rfl (w64 (by omega) (by omega)) ?_)
  refine za (zd (v := (.int .i64 ((k : Int) + 1))) rfl ?_)
  refine zf ?_
  refine zc ⟨l.length - (k + 1), _, rfl, ?_, ?_⟩
  · omega
  · exact ⟨(k + 1), (max y x17), rfl, hH7, (by omega), (by rw [zO (by simpa using hx18), List.foldl_append, ← hy]; rfl), rfl, e4_1, e4_4, e4_7, e4_8, rfl⟩
 ·
  refine wp_exit ?_
  refine zx (zx (x_in (?_)))
  refine zc (hK2 _ _ ?_)
  refine wp_seq_k fun K19 hK19 => ?_
  refine zb ?_
  refine za (zd (v := (.int .i64 y)) e4_0 ?_)
  refine za (ze (v := (.int .i64 y)) rfl ?_)
  refine zf ?_
  refine zc (hK19 _ _ ?_)
  refine wp_ret ?_
  refine zq Tryz.results117  (v := (.int .i64 y)) rfl ?_
  have e : k = l.length := by omega
  subst e
  rw [List.take_of_length_le (Nat.le_refl _)] at hy
  subst hy
  exact ⟨rfl, hH7⟩
set_option maxHeartbeats 4000000 in
theorem least_c {E w : World} {R : List Hp} (hH : Has E w [R]) (x : Int) {v : Value} {l : List Int} (hv : Ints R v l) :
  Calls Tryz.prog 174 #[(.int .i64 x), v] w fun e w' => e = .returned (.int .i64 (l.foldl min x)) ∧ Has E w' [R] := by
 have hn := hv.le
 refine zs (args := [(.int .i64 x), v]) Tryz.func174 rfl Tryz.ntmps174 (by simp) ?_
 refine wp_seq_k fun K1 hK1 => ?_
 refine zb ?_
 refine za (ze (v := (.int .i64 0)) rfl ?_)
 refine zf ?_
 refine zc (hK1 _ _ ?_)
 refine wp_seq_k fun K2 hK2 => ?_
 refine wp_seq_k fun K3 hK3 => ?_
 refine zb ?_
 refine za (zd (v := v) rfl ?_)
 refine za (zY Tryz.underlying47 rfl hv ?_)
 refine za (zd (v := (.int .i64 0)) rfl ?_)
 refine zf ?_
 refine zc (hK3 _ _ ?_)
 refine wp_block ?_
 let I5 : Nat → (Nat → Value) → World → Prop := fun n__ r__ w__ => ∃ (k : Nat) (y : Int), n__ = l.length - k ∧ Has E w__ [R] ∧ (k ≤ l.length) ∧ (y = (l.take k).foldl min x) ∧ r__ 0 = (.int .i64 y) ∧ r__ 1 = v ∧ r__ 4 = (.int .i64 0) ∧ r__ 7 = v ∧ r__ 8 = (.int .i64 ((l.length : Nat) : Int)) ∧ r__ 9 = (.int .i64 (k : Int))
 refine zT I5 _ ⟨0, x, rfl, hH, Nat.zero_le _, rfl, rfl, rfl, rfl, rfl, rfl, rfl⟩ ?_
 rintro n_ r8 w6 ⟨k, y, rfl, hH7, hk, hy, e4_0, e4_1, e4_4, e4_7, e4_8, e4_9⟩
 refine wp_seq_k fun K9 hK9 => ?_
 refine zb ?_
 refine za (zL (a := (k : Int)) (b := ((l.length : Nat) : Int)) e4_9 e4_8 ?_)
 refine zf ?_
 refine zc (hK9 _ _ ?_)
 refine wp_seq_k fun K10 hK10 => ?_
 refine zt rfl (fun h11 => ?_) (fun h11 => ?_)
 ·
  refine wp_skip ?_
  refine zc (hK10 _ _ ?_)
  refine wp_seq_k fun K12 hK12 => ?_
  refine wp_block ?_
  refine wp_seq_k fun K13 hK13 => ?_
  refine zb ?_
  obtain ⟨x17, hx18⟩ : ∃ x_, l[((k : Int)).toNat]? = some x_ := zM (by omega)
  refine za (yc Tryz.underlying47 ti3 e4_7 hv e4_9 (by omega) hx18 fun b14 o15 hc16 => ?_)
  refine za (zj (v := (.int .i64 x17)) Tryz.underlying3 rfl rfl hH7 (zh 0 rfl) hc16 ?_)
  refine za (ze (v := (.int .i64 x17)) rfl ?_)
  refine zf ?_
  refine zc (hK13 _ _ ?_)
  refine zb ?_
  refine za (zd (v := (.int .i64 y)) e4_0 ?_)
  refine za (zd (v := (.int .i64 x17)) rfl ?_)
  refine za (o_min (a := y) (b := x17) rfl rfl ?_)
  refine za (ze (v := (.int .i64 (min y x17))) rfl ?_)
  refine zf ?_
  refine zG ?_
  refine zc (hK12 _ _ ?_)
  refine zb ?_
  refine za (zH (a := (k : Int)) (b := 1) e4_9 rfl (w64 (by omega) (by omega)) ?_)
  refine za (zd (v := (.int .i64 ((k : Int) + 1))) rfl ?_)
  refine zf ?_
  refine zc ⟨l.length - (k + 1), _, rfl, ?_, ?_⟩
  · omega
  · exact ⟨(k + 1), (min y x17), rfl, hH7, (by omega), (by rw [zO (by simpa using hx18), List.foldl_append, ← hy]; rfl), rfl, e4_1, e4_4, e4_7, e4_8, rfl⟩
 ·
  refine wp_exit ?_
  refine zx (zx (x_in (?_)))
  refine zc (hK2 _ _ ?_)
  refine wp_seq_k fun K19 hK19 => ?_
  refine zb ?_
  refine za (zd (v := (.int .i64 y)) e4_0 ?_)
  refine za (ze (v := (.int .i64 y)) rfl ?_)
  refine zf ?_
  refine zc (hK19 _ _ ?_)
  refine wp_ret ?_
  refine zq Tryz.results174  (v := (.int .i64 y)) rfl ?_
  have e : k = l.length := by omega
  subst e
  rw [List.take_of_length_le (Nat.le_refl _)] at hy
  subst hy
  exact ⟨rfl, hH7⟩
set_option maxHeartbeats 4000000 in
theorem fits_c {E w : World} {R : List Hp} (hH : Has E w [R]) (n : Int) (m : Nat) (hm : m ≤ 8) :
  Calls Tryz.prog 176 #[(.int .i64 n), (.int .i64 (m : Int))] w fun e w' => e = .returned (.bool (fitsS n m)) ∧ Has E w' [R] := by
 refine zs (args := [(.int .i64 n), (.int .i64 (m : Int))]) Tryz.func176 rfl Tryz.ntmps176 (by simp) ?_
 refine wp_seq_k fun K1 hK1 => ?_
 refine zb ?_
 refine za (ze (v := (.bool false)) rfl ?_)
 refine zf ?_
 refine zc (hK1 _ _ ?_)
 refine wp_seq_k fun K2 hK2 => ?_
 refine zb ?_
 refine za (zd (v := (.int .i64 n)) rfl ?_)
 refine za (o_geq (a := n) (b := 0) rfl rfl ?_)
 refine za (zd (v := (.bool (decide (0 ≤ n)))) rfl ?_)
 by_cases h3 : 0 ≤ n
 ·
  refine zn 7 rfl (cT h3) (zd (v := (.int .i64 (m : Int))) rfl ?_)
  refine zn 7 rfl (cT h3) (yd (a := (m : Int)) (b := 8) rfl rfl ?_)
  refine zn 7 rfl (cT h3) (zd (v := (.bool (decide ((m : Int) = 8)))) rfl ?_)
  by_cases h4 : (m : Int) = 8
  ·
   refine zi (b' := true) 10 rfl (cT h4) rfl ?_
   refine zi (b' := true) 10 rfl (cT h4) rfl ?_
   refine zi (b' := true) 10 rfl (cT h4) rfl ?_
   refine zi (b' := true) 10 rfl (cT h4) rfl ?_
   refine zi (b' := true) 10 rfl (cT h4) rfl ?_
   refine zn 7 rfl (cT h3) (zo (u := (.bool true)) ((rfl : _ = _).trans (cT h4)) rfl ?_)
   refine za (zo (u := (.bool true)) ((rfl : _ = _).trans (cT h3)) rfl ?_)
   refine za (ze (v := (.bool true)) rfl ?_)
   refine zf ?_
   refine zc (hK2 _ _ ?_)
   refine wp_ret ?_
   refine zq Tryz.results176  (v := (.bool true)) rfl ?_
   exact ⟨by simp [fitsS, *], hH⟩
  ·
   refine zn 10 rfl (cF h4) (zd (v := (.int .i64 n)) rfl ?_)
   refine zn 10 rfl (cF h4) (zd (v := (.int .i64 (m : Int))) rfl ?_)
   refine zn 10 rfl (cF h4) (o_mul (a := 8) (b := (m : Int)) rfl rfl (w64 (by omega) (by omega)) ?_)
   refine zn 10 rfl (cF h4) (o_shr (c := Int.fdiv n (2 ^ (min (8 * (m : Int)).toNat 64))) rfl rfl (by omega) rfl ?_)
   refine zn 10 rfl (cF h4) (yd (a := Int.fdiv n (2 ^ (min (8 * (m : Int)).toNat 64))) (b := 0) rfl rfl ?_)
   refine zn 7 rfl (cT h3) (zm (u := (.bool (decide (Int.fdiv n (2 ^ (min (8 * (m : Int)).toNat 64)) = 0)))) ((rfl : _ = _).trans (cF h4)) rfl ?_)
   refine za (zo (u := (.bool (decide (Int.fdiv n (2 ^ (min (8 * (m : Int)).toNat 64)) = 0)))) ((rfl : _ = _).trans (cT h3)) rfl ?_)
   refine za (ze (v := (.bool (decide (Int.fdiv n (2 ^ (min (8 * (m : Int)).toNat 64)) = 0)))) rfl ?_)
   refine zf ?_
   refine zc (hK2 _ _ ?_)
   refine wp_ret ?_
   refine zq Tryz.results176  (v := (.bool (decide (Int.fdiv n (2 ^ (min (8 * (m : Int)).toNat 64)) = 0)))) rfl ?_
   exact ⟨by simp [fitsS, *], hH⟩
 ·
  refine zi (b' := false) 7 rfl (cF h3) rfl ?_
  refine zi (b' := false) 7 rfl (cF h3) rfl ?_
  refine zi (b' := false) 7 rfl (cF h3) rfl ?_
  refine zA 10 rfl rfl ?_
  refine zA 10 rfl rfl ?_
  refine zA 10 rfl rfl ?_
  refine zA 10 rfl rfl ?_
  refine zA 10 rfl rfl ?_
  refine zi (b' := false) 7 rfl (cF h3) rfl ?_
  refine za (zm (u := (.bool false)) ((rfl : _ = _).trans (cF h3)) rfl ?_)
  refine za (ze (v := (.bool false)) rfl ?_)
  refine zf ?_
  refine zc (hK2 _ _ ?_)
  refine wp_ret ?_
  refine zq Tryz.results176  (v := (.bool false)) rfl ?_
  exact ⟨by simp [fitsS, *], hH⟩
set_option maxHeartbeats 4000000 in
theorem put_c {E w : World} {R : List Hp} (hH : Has E w [R]) (m : Nat) {v : Value} {l : List Int} (hv : Ints R v l) (hl : l.length ≤ 1000000) :
  Calls Tryz.prog 90 #[(.int .i64 (m : Int)), v] w fun e w' => e = .returned (S (putS m l)) ∧ Has E w' [R] := by
 have hml0 : 0 ≤ (m : Int) * (l.length : Int) := Int.mul_nonneg (by omega) (by omega)
 have hml : m ≤ 8 → (m : Int) * (l.length : Int) ≤ 8000000 := fun h => by have h2 : m * l.length ≤ 8 * 1000000 := Nat.mul_le_mul h hl; have h3 := Int.ofNat_le.2 h2; rw [Int.natCast_mul] at h3; omega
 refine zs (args := [(.int .i64 (m : Int)), v]) Tryz.func90 rfl Tryz.ntmps90 (by simp) ?_
 refine wp_seq_k fun K1 hK1 => ?_
 refine zb ?_
 refine za (ze (v := (S ([] : List UInt8))) rfl ?_)
 refine zf ?_
 refine zc (hK1 _ _ ?_)
 refine wp_seq_k fun K2 hK2 => ?_
 refine wp_seq_k fun K3 hK3 => ?_
 refine zb ?_
 refine za (zd (v := (.int .i64 (m : Int))) rfl ?_)
 refine za (zL (a := (m : Int)) (b := 1) rfl rfl ?_)
 refine za (zd (v := (.bool (decide ((m : Int) < 1)))) rfl ?_)
 by_cases h4 : (m : Int) < 1
 ·
  refine zi (b' := true) 11 rfl (cT h4) rfl ?_
  refine zi (b' := true) 11 rfl (cT h4) rfl ?_
  refine za (zo (u := (.bool true)) ((rfl : _ = _).trans (cT h4)) rfl ?_)
  refine zf ?_
  refine zc (hK3 _ _ ?_)
  refine zN rfl rfl ?_
  refine wp_seq_k fun K5 hK5 => ?_
  refine zb ?_
  refine za (ze (v := (S ([] : List UInt8))) rfl ?_)
  refine zf ?_
  refine zc (hK5 _ _ ?_)
  refine wp_ret ?_
  refine zv (zq Tryz.results90  (v := (S ([] : List UInt8))) rfl ?_)
  exact ⟨by rw [putS, if_neg (by omega)], hH⟩
 ·
  refine zn 11 rfl (cF h4) (zd (v := (.int .i64 (m : Int))) rfl ?_)
  refine zn 11 rfl (cF h4) (o_gtr (a := (m : Int)) (b := 8) rfl rfl ?_)
  refine za (zm (u := (.bool (decide (8 < (m : Int))))) ((rfl : _ = _).trans (cF h4)) rfl ?_)
  refine zf ?_
  refine zc (hK3 _ _ ?_)
  refine zt rfl (fun h6 => ?_) (fun h6 => ?_)
  ·
   refine wp_seq_k fun K7 hK7 => ?_
   refine zb ?_
   refine za (ze (v := (S ([] : List UInt8))) rfl ?_)
   refine zf ?_
   refine zc (hK7 _ _ ?_)
   refine wp_ret ?_
   refine zv (zq Tryz.results90  (v := (S ([] : List UInt8))) rfl ?_)
   exact ⟨by rw [putS, if_neg (by omega)], hH⟩
  ·
   refine wp_skip ?_
   refine zc (hK2 _ _ ?_)
   refine wp_seq_k fun K8 hK8 => ?_
   refine zb ?_
   refine za (zd (v := (.int .i64 (m : Int))) rfl ?_)
   refine za (zd (v := v) rfl ?_)
   refine za (zY Tryz.underlying47 rfl hv ?_)
   refine za (o_mul (a := (m : Int)) (b := ((l.length : Nat) : Int)) rfl rfl (w64 (by omega) (by omega)) ?_)
   refine za (o_make Tryz.underlying30 ti5 rfl rfl (by omega) (by omega) (by omega) (by omega) hH fun v9 s10 w12 ho11 hH13 => ?_)
   have ho11 : Own 5 1 v9 0 [] s10 := by simpa using ho11
   refine za (ze (v := v9) rfl ?_)
   refine zf ?_
   refine zc (hK8 _ _ ?_)
   refine wp_seq_k fun K14 hK14 => ?_
   refine wp_seq_k fun K15 hK15 => ?_
   refine zb ?_
   refine za (zd (v := v) rfl ?_)
   refine za (zY Tryz.underlying47 rfl hv ?_)
   refine za (zd (v := (.int .i64 0)) rfl ?_)
   refine zf ?_
   refine zc (hK15 _ _ ?_)
   refine wp_block ?_
   let I17 : Nat → (Nat → Value) → World → Prop := fun n__ r__ w__ => ∃ (k : Nat) (vb : Value) (hs : List Hp) (lb : List UInt8), n__ = l.length - k ∧ Has E w__ [hs, R] ∧ (k ≤ l.length) ∧ (Own 5 1 vb lb.length (lb.map bV) hs) ∧ (lb = (l.take k).flatMap (beFrom · m)) ∧ (∀ x ∈ l.take k, fitsS x m = true) ∧ (lb.length ≤ 8 * k) ∧ r__ 0 = (.int .i64 (m : Int)) ∧ r__ 1 = v ∧ r__ 5 = vb ∧ r__ 14 = (.bool (decide (8 < (m : Int)))) ∧ r__ 20 = v ∧ r__ 21 = (.int .i64 ((l.length : Nat) : Int)) ∧ r__ 22 = (.int .i64 (k : Int))
   refine zT I17 _ ⟨0, v9, s10, [], rfl, hH13, Nat.zero_le _, ho11, rfl, (by simp), (by simp), rfl, rfl, rfl, rfl, rfl, rfl, rfl⟩ ?_
   rintro n_ r20 w18 ⟨k, vb, hs, lb, rfl, hH19, hk, hob, hlb, hfit, hlen, e16_0, e16_1, e16_5, e16_14, e16_20, e16_21, e16_22⟩
   refine wp_seq_k fun K21 hK21 => ?_
   refine zb ?_
   refine za (zL (a := (k : Int)) (b := ((l.length : Nat) : Int)) e16_22 e16_21 ?_)
   refine zf ?_
   refine zc (hK21 _ _ ?_)
   refine wp_seq_k fun K22 hK22 => ?_
   refine zt rfl (fun h23 => ?_) (fun h23 => ?_)
   ·
    refine wp_skip ?_
    refine zc (hK22 _ _ ?_)
    refine wp_seq_k fun K24 hK24 => ?_
    refine wp_block ?_
    refine wp_seq_k fun K25 hK25 => ?_
    refine zb ?_
    obtain ⟨x29, hx30⟩ : ∃ x_, l[((k : Int)).toNat]? = some x_ := zM (by omega)
    refine za (yc Tryz.underlying47 ti3 e16_20 hv e16_22 (by omega) hx30 fun b26 o27 hc28 => ?_)
    refine za (zj (v := (.int .i64 x29)) Tryz.underlying3 rfl rfl hH19 (zh 1 rfl) hc28 ?_)
    refine za (ze (v := (.int .i64 x29)) rfl ?_)
    refine zf ?_
    refine zc (hK25 _ _ ?_)
    refine wp_seq_k fun K31 hK31 => ?_
    refine wp_seq_k fun K32 hK32 => ?_
    refine zb ?_
    refine za (zd (v := (.int .i64 x29)) rfl ?_)
    refine za (zd (v := (.int .i64 (m : Int))) e16_0 ?_)
    refine za (zk (vs := #[(.int .i64 x29), (.int .i64 (m : Int))]) ca176 rfl (zI rfl rfl) (fits_c hH19.all x29 m (by omega)) ?_)
    rintro _ w35 ⟨rfl, hX33⟩
    refine ⟨_, rfl, ?_⟩
    have hH34 := hX33.of_all
    refine za (o_not rfl ?_)
    refine zf ?_
    refine zc (hK32 _ _ ?_)
    refine zX rfl (fun h36 => ?_) (fun h36 => ?_)
    ·
     have h36_n : (fitsS x29 m) = false := by first | simpa using h36 | exact Bool.of_not_eq_true (fun g_ => by rw [g_] at h36; cases h36)
     refine wp_seq_k fun K37 hK37 => ?_
     refine zb ?_
     refine za (ze (v := (S ([] : List UInt8))) rfl ?_)
     refine zf ?_
     refine zc (hK37 _ _ ?_)
     refine wp_ret ?_
     refine zv (b_ret (zv (zv (b_ret (zv (zq Tryz.results90  (v := (S ([] : List UInt8))) rfl ?_))))))
     have hH38 : Has E w35 [R] := (hH34.front 1 rfl).first 1 rfl
     exact ⟨by rw [putS_no (x := x29) (List.mem_of_getElem? hx30) (by simpa using h36)], hH38⟩
    ·
     have h36_n : (fitsS x29 m) = true := by first | simpa using h36 | exact Bool.of_not_eq_false (fun g_ => by rw [g_] at h36; cases h36)
     refine wp_skip ?_
     refine zc (hK31 _ _ ?_)
     refine wp_seq_k fun K39 hK39 => ?_
     refine zb ?_
     refine za (zd (v := (.int .i64 (m : Int))) e16_0 ?_)
     refine za (o_sub (a := (m : Int)) (b := 1) rfl rfl (w64 (by omega) (by omega)) ?_)
     refine za (ze (v := (.int .i64 ((m : Int) - 1))) rfl ?_)
     refine zf ?_
     refine zc (hK39 _ _ ?_)
     refine wp_block ?_
     let I41 : Nat → (Nat → Value) → World → Prop := fun n__ r__ w__ => ∃ (j : Nat) (i : Int) (vc : Value) (hs2 : List Hp) (lc : List UInt8), n__ = j + 1 ∧ Has E w__ [hs2, R] ∧ (j ≤ m) ∧ (i = (j : Int) - 1) ∧ (Own 5 1 vc lc.length (lc.map bV) hs2) ∧ (lb ++ beFrom x29 m = lc ++ beFrom x29 j) ∧ (lc.length + j ≤ lb.length + m) ∧ r__ 0 = (.int .i64 (m : Int)) ∧ r__ 1 = v ∧ r__ 5 = vc ∧ r__ 7 = (.int .i64 x29) ∧ r__ 8 = (.int .i64 i) ∧ r__ 14 = (.bool (decide (8 < (m : Int)))) ∧ r__ 20 = v ∧ r__ 21 = (.int .i64 ((l.length : Nat) : Int)) ∧ r__ 22 = (.int .i64 (k : Int)) ∧ r__ 23 = (.bool (decide ((k : Int) < ((l.length : Nat) : Int)))) ∧ r__ 29 = (.bool (!(fitsS x29 m)))
     refine zT I41 _ ⟨m, ((m : Int) - 1), vb, hs, lb, rfl, hH34, Nat.le_refl _, rfl, hob, rfl, (by omega), e16_0, e16_1, e16_5, rfl, rfl, e16_14, e16_20, e16_21, e16_22, rfl, rfl⟩ ?_
     rintro n_ r44 w42 ⟨j, i, vc, hs2, lc, rfl, hH43, hj, hi, hoc, hpart, hlen2, e40_0, e40_1, e40_5, e40_7, e40_8, e40_14, e40_20, e40_21, e40_22, e40_23, e40_29⟩
     refine wp_seq_k fun K45 hK45 => ?_
     refine wp_seq_k fun K46 hK46 => ?_
     refine zb ?_
     refine za (zd (v := (.int .i64 i)) e40_8 ?_)
     refine za (o_geq (a := i) (b := 0) rfl rfl ?_)
     refine zf ?_
     refine zc (hK46 _ _ ?_)
     refine zt rfl (fun h47 => ?_) (fun h47 => ?_)
     ·
      refine wp_skip ?_
      refine zc (hK45 _ _ ?_)
      refine wp_seq_k fun K48 hK48 => ?_
      refine wp_block ?_
      refine zb ?_
      refine za (zd (v := vc) e40_5 ?_)
      refine za (zd (v := (.int .i64 x29)) e40_7 ?_)
      refine za (zd (v := (.int .i64 i)) e40_8 ?_)
      refine za (o_mul (a := 8) (b := i) rfl rfl (w64 (by omega) (by omega)) ?_)
      refine za (o_shr (c := Int.fdiv x29 (2 ^ (min (8 * i).toNat 64))) rfl rfl (by omega) rfl ?_)
      refine za (ya (c := ((by8 (Int.fdiv x29 (2 ^ (min (8 * i).toNat 64)))).toNat : Int)) Tryz.underlying3 Tryz.underlying5 rfl (wrap_by8 _) ?_)
      refine za (zu (ps := #[(0, (bV (by8 (Int.fdiv x29 (2 ^ (min (8 * i).toNat 64))))))]) (cells := #[(bV (by8 (Int.fdiv x29 (2 ^ (min (8 * i).toNat 64)))))]) Tryz.underlying30 ti5 (by decide) (parts1 rfl) (by kernel_rfl) hH43 fun b49 w50 hH51 => ?_)
      refine za (o_append Tryz.underlying30 ti5 rfl (by decide) rfl hoc rfl (zW (f := bV) (l := [(by8 (Int.fdiv x29 (2 ^ (min (8 * i).toNat 64))))]) rfl rfl (by simp)) (hH51.front 1 rfl) (zh 0 rfl) (one_bV _) (by simp; omega) (by simp; omega) fun v52 s53 w55 ho54 hH56 => ?_)
      have ho54 : Own 5 1 v52 (lc ++ [(by8 (Int.fdiv x29 (2 ^ (min (8 * i).toNat 64))))]).length ((lc ++ [(by8 (Int.fdiv x29 (2 ^ (min (8 * i).toNat 64))))]).map bV) s53 := ho54.app
      refine za (ze (v := v52) rfl ?_)
      refine zf ?_
      refine zG ?_
      refine zc (hK48 _ _ ?_)
      refine zb ?_
      refine za (zd (v := (.int .i64 i)) e40_8 ?_)
      refine za (o_sub (a := i) (b := 1) rfl rfl (w64 (by omega) (by omega)) ?_)
      refine za (ze (v := (.int .i64 (i - 1))) rfl ?_)
      refine zf ?_
      have hH57 : Has E w55 [s53, R] := ((hH56.front 2 rfl).front 1 rfl).first 2 rfl
      refine zc ⟨(j - 1) + 1, _, rfl, ?_, ?_⟩
      · omega
      · exact ⟨(j - 1), (i - 1), v52, s53, (lc ++ [(by8 (Int.fdiv x29 (2 ^ (min (8 * i).toNat 64))))]), rfl, hH57, (by omega), (by omega), (ho54), (by rw [hpart, beFrom_pred (by omega), hi, by8_shift _ (by omega) (by omega)]; simp [List.append_assoc]), (by simp; omega), e40_0, e40_1, rfl, e40_7, rfl, e40_14, e40_20, e40_21, e40_22, e40_23, e40_29⟩
     ·
      refine wp_exit ?_
      refine zx (zx (x_in (?_)))
      refine zG ?_
      refine zc (hK24 _ _ ?_)
      refine zb ?_
      refine za (zH (a := (k : Int)) (b := 1) e40_22 rfl (w64 (by omega) (by omega)) ?_)
      refine za (zd (v := (.int .i64 ((k : Int) + 1))) rfl ?_)
      refine zf ?_
      refine zc ⟨l.length - (k + 1), _, rfl, ?_, ?_⟩
      · omega
      · exact ⟨(k + 1), vc, hs2, lc, rfl, hH43, (by omega), (hoc), (by (have e : j = 0 := by omega); rw [e] at hpart; rw [zO (by simpa using hx30), List.flatMap_append, ← hlb]; simpa [beFrom] using hpart.symm), (by rw [zO (by simpa using hx30)]; exact fun x hx => (List.mem_append.1 hx).elim (hfit x) (fun h => by simp at h; subst h; simpa using h36)), (by omega), e40_0, e40_1, e40_5, e40_14, e40_20, e40_21, rfl⟩
   ·
    refine wp_exit ?_
    refine zx (zx (x_in (?_)))
    refine zc (hK14 _ _ ?_)
    refine wp_seq_k fun K58 hK58 => ?_
    refine zb ?_
    refine za (zd (v := vb) e16_5 ?_)
    refine za (o_bstr Tryz.underlying30 Tryz.underlying5 Tryz.underlying9 rfl hob.sl hH19 (zh 0 rfl) ?_)
    refine za (ze (v := (S lb)) rfl ?_)
    refine zf ?_
    refine zc (hK58 _ _ ?_)
    refine wp_ret ?_
    refine zq Tryz.results90  (v := (S lb)) rfl ?_
    have hH59 : Has E w18 [R] := (hH19.front 1 rfl).first 1 rfl
    have e : k = l.length := by omega
    subst e
    rw [List.take_of_length_le (Nat.le_refl _)] at hlb hfit
    exact ⟨by rw [putS_yes (by omega) (by omega) hfit, hlb], hH59⟩
set_option maxHeartbeats 4000000 in
theorem take_c {E w : World} {R : List Hp} (hH : Has E w [R]) (m : Nat) (s : List UInt8) (hsl : s.length ≤ 9223372036854775807) :
  Calls Tryz.prog 276 #[(S s), (.int .i64 (m : Int))] w fun e w' => e = .returned (.tuple #[.int .i64 (takeS s m).1, S (takeS s m).2.1, .bool (takeS s m).2.2]) ∧ Has E w' [R] := by
 refine zs (args := [(S s), (.int .i64 (m : Int))]) Tryz.func276 rfl Tryz.ntmps276 (by simp) ?_
 refine wp_seq_k fun K1 hK1 => ?_
 refine zb ?_
 refine za (ze (v := (.int .i64 0)) rfl ?_)
 refine za (ze (v := (S ([] : List UInt8))) rfl ?_)
 refine za (ze (v := (.bool false)) rfl ?_)
 refine zf ?_
 refine zc (hK1 _ _ ?_)
 refine wp_seq_k fun K2 hK2 => ?_
 refine wp_seq_k fun K3 hK3 => ?_
 refine zb ?_
 refine za (zd (v := (.int .i64 (m : Int))) rfl ?_)
 refine za (zL (a := (m : Int)) (b := 1) rfl rfl ?_)
 refine za (zd (v := (.bool (decide ((m : Int) < 1)))) rfl ?_)
 by_cases h4 : (m : Int) < 1
 ·
  refine zi (b' := true) 11 rfl (cT h4) rfl ?_
  refine zi (b' := true) 11 rfl (cT h4) rfl ?_
  refine za (zo (u := (.bool true)) ((rfl : _ = _).trans (cT h4)) rfl ?_)
  refine za (zd (v := (.bool true)) rfl ?_)
  refine zi (b' := true) 15 rfl rfl rfl ?_
  refine zi (b' := true) 15 rfl rfl rfl ?_
  refine zi (b' := true) 15 rfl rfl rfl ?_
  refine zi (b' := true) 15 rfl rfl rfl ?_
  refine za (zo (u := (.bool true)) rfl rfl ?_)
  refine za (zd (v := (.bool true)) rfl ?_)
  refine zi (b' := true) 21 rfl rfl rfl ?_
  refine zi (b' := true) 21 rfl rfl rfl ?_
  refine zi (b' := true) 21 rfl rfl rfl ?_
  refine zA 24 rfl rfl ?_
  refine zA 24 rfl rfl ?_
  refine zA 24 rfl rfl ?_
  refine zi (b' := true) 21 rfl rfl rfl ?_
  refine za (zo (u := (.bool true)) rfl rfl ?_)
  refine zf ?_
  refine zc (hK3 _ _ ?_)
  refine zN rfl rfl ?_
  refine wp_seq_k fun K5 hK5 => ?_
  refine zb ?_
  refine za (zd (v := (S s)) rfl ?_)
  refine za (ze (v := (.int .i64 0)) rfl ?_)
  refine za (ze (v := (S s)) rfl ?_)
  refine za (ze (v := (.bool false)) rfl ?_)
  refine zf ?_
  refine zc (hK5 _ _ ?_)
  refine wp_ret ?_
  refine zv (c_ret3 Tryz.results276  (v := (.int .i64 0)) rfl (x := (S s)) rfl (y := (.bool false)) rfl ?_)
  exact ⟨by rw [takeS_no (by first | exact .inl (by omega) | exact .inr (.inl (by omega)) | exact .inr (.inr ⟨by omega, 0, by simpa using rfl, by omega⟩))], hH⟩
 ·
  refine zn 11 rfl (cF h4) (zd (v := (.int .i64 (m : Int))) rfl ?_)
  refine zn 11 rfl (cF h4) (o_gtr (a := (m : Int)) (b := 8) rfl rfl ?_)
  refine za (zm (u := (.bool (decide (8 < (m : Int))))) ((rfl : _ = _).trans (cF h4)) rfl ?_)
  refine za (zd (v := (.bool (decide (8 < (m : Int))))) rfl ?_)
  by_cases h6 : 8 < (m : Int)
  ·
   refine zi (b' := true) 15 rfl (cT h6) rfl ?_
   refine zi (b' := true) 15 rfl (cT h6) rfl ?_
   refine zi (b' := true) 15 rfl (cT h6) rfl ?_
   refine zi (b' := true) 15 rfl (cT h6) rfl ?_
   refine za (zo (u := (.bool true)) ((rfl : _ = _).trans (cT h6)) rfl ?_)
   refine za (zd (v := (.bool true)) rfl ?_)
   refine zi (b' := true) 21 rfl rfl rfl ?_
   refine zi (b' := true) 21 rfl rfl rfl ?_
   refine zi (b' := true) 21 rfl rfl rfl ?_
   refine zA 24 rfl rfl ?_
   refine zA 24 rfl rfl ?_
   refine zA 24 rfl rfl ?_
   refine zi (b' := true) 21 rfl rfl rfl ?_
   refine za (zo (u := (.bool true)) rfl rfl ?_)
   refine zf ?_
   refine zc (hK3 _ _ ?_)
   refine zN rfl rfl ?_
   refine wp_seq_k fun K7 hK7 => ?_
   refine zb ?_
   refine za (zd (v := (S s)) rfl ?_)
   refine za (ze (v := (.int .i64 0)) rfl ?_)
   refine za (ze (v := (S s)) rfl ?_)
   refine za (ze (v := (.bool false)) rfl ?_)
   refine zf ?_
   refine zc (hK7 _ _ ?_)
   refine wp_ret ?_
   refine zv (c_ret3 Tryz.results276  (v := (.int .i64 0)) rfl (x := (S s)) rfl (y := (.bool false)) rfl ?_)
   exact ⟨by rw [takeS_no (by first | exact .inl (by omega) | exact .inr (.inl (by omega)) | exact .inr (.inr ⟨by omega, 0, by simpa using rfl, by omega⟩))], hH⟩
  ·
   refine zn 15 rfl (cF h6) (zd (v := (S s)) rfl ?_)
   refine zn 15 rfl (cF h6) (yb Tryz.underlying9 rfl ?_)
   refine zn 15 rfl (cF h6) (zd (v := (.int .i64 (m : Int))) rfl ?_)
   refine zn 15 rfl (cF h6) (zL (a := (s.length : Int)) (b := (m : Int)) rfl rfl ?_)
   refine za (zm (u := (.bool (decide ((s.length : Int) < (m : Int))))) ((rfl : _ = _).trans (cF h6)) rfl ?_)
   refine za (zd (v := (.bool (decide ((s.length : Int) < (m : Int))))) rfl ?_)
   by_cases h8 : (s.length : Int) < (m : Int)
   ·
    refine zi (b' := true) 21 rfl (cT h8) rfl ?_
    refine zi (b' := true) 21 rfl (cT h8) rfl ?_
    refine zi (b' := true) 21 rfl (cT h8) rfl ?_
    refine zA 24 rfl rfl ?_
    refine zA 24 rfl rfl ?_
    refine zA 24 rfl rfl ?_
    refine zi (b' := true) 21 rfl (cT h8) rfl ?_
    refine za (zo (u := (.bool true)) ((rfl : _ = _).trans (cT h8)) rfl ?_)
    refine zf ?_
    refine zc (hK3 _ _ ?_)
    refine zN rfl rfl ?_
    refine wp_seq_k fun K9 hK9 => ?_
    refine zb ?_
    refine za (zd (v := (S s)) rfl ?_)
    refine za (ze (v := (.int .i64 0)) rfl ?_)
    refine za (ze (v := (S s)) rfl ?_)
    refine za (ze (v := (.bool false)) rfl ?_)
    refine zf ?_
    refine zc (hK9 _ _ ?_)
    refine wp_ret ?_
    refine zv (c_ret3 Tryz.results276  (v := (.int .i64 0)) rfl (x := (S s)) rfl (y := (.bool false)) rfl ?_)
    exact ⟨by rw [takeS_no (by first | exact .inl (by omega) | exact .inr (.inl (by omega)) | exact .inr (.inr ⟨by omega, 0, by simpa using rfl, by omega⟩))], hH⟩
   ·
    refine zn 21 rfl (cF h8) (zd (v := (.int .i64 (m : Int))) rfl ?_)
    refine zn 21 rfl (cF h8) (yd (a := (m : Int)) (b := 8) rfl rfl ?_)
    refine zn 21 rfl (cF h8) (zd (v := (.bool (decide ((m : Int) = 8)))) rfl ?_)
    by_cases h10 : (m : Int) = 8
    ·
     refine zn 24 rfl (cT h10) (zd (v := (S s)) rfl ?_)
     obtain ⟨c11, hx12⟩ : ∃ x_, s[((0 : Int)).toNat]? = some x_ := zM (by omega)
     have c11_lt := c11.toNat_lt
     refine zn 24 rfl (cT h10) (o_sidx Tryz.underlying9 rfl rfl (by omega) hx12 ?_)
     refine zn 24 rfl (cT h10) (o_gtr (a := (c11.toNat : Int)) (b := 127) rfl rfl ?_)
     refine zn 21 rfl (cF h8) (zo (u := (.bool (decide (127 < (c11.toNat : Int))))) ((rfl : _ = _).trans (cT h10)) rfl ?_)
     refine za (zm (u := (.bool (decide (127 < (c11.toNat : Int))))) ((rfl : _ = _).trans (cF h8)) rfl ?_)
     refine zf ?_
     refine zc (hK3 _ _ ?_)
     refine zt rfl (fun h13 => ?_) (fun h13 => ?_)
     ·
      refine wp_seq_k fun K14 hK14 => ?_
      refine zb ?_
      refine za (zd (v := (S s)) rfl ?_)
      refine za (ze (v := (.int .i64 0)) rfl ?_)
      refine za (ze (v := (S s)) rfl ?_)
      refine za (ze (v := (.bool false)) rfl ?_)
      refine zf ?_
      refine zc (hK14 _ _ ?_)
      refine wp_ret ?_
      refine zv (c_ret3 Tryz.results276  (v := (.int .i64 0)) rfl (x := (S s)) rfl (y := (.bool false)) rfl ?_)
      exact ⟨by rw [takeS_no (by first | exact .inl (by omega) | exact .inr (.inl (by omega)) | exact .inr (.inr ⟨by omega, c11, by simpa using hx12, by omega⟩))], hH⟩
     ·
      refine wp_skip ?_
      refine zc (hK2 _ _ ?_)
      refine wp_seq_k fun K15 hK15 => ?_
      refine zb ?_
      refine za (ze (v := (.int .i64 0)) rfl ?_)
      refine zf ?_
      refine zc (hK15 _ _ ?_)
      refine wp_seq_k fun K16 hK16 => ?_
      refine wp_seq_k fun K17 hK17 => ?_
      refine zb ?_
      refine za (zd (v := (.int .i64 (m : Int))) rfl ?_)
      refine za (zd (v := (.int .i64 0)) rfl ?_)
      refine zf ?_
      refine zc (hK17 _ _ ?_)
      refine wp_block ?_
      let I19 : Nat → (Nat → Value) → World → Prop := fun n__ r__ w__ => ∃ (i : Nat) (y : Int), n__ = m - i ∧ Has E w__ [R] ∧ (i ≤ m) ∧ (y = beVal (s.take i)) ∧ r__ 0 = (S s) ∧ r__ 1 = (.int .i64 (m : Int)) ∧ r__ 4 = (.int .i64 0) ∧ r__ 5 = (S ([] : List UInt8)) ∧ r__ 6 = (.bool false) ∧ r__ 7 = (.int .i64 y) ∧ r__ 29 = (.bool (decide (127 < (c11.toNat : Int)))) ∧ r__ 31 = (.int .i64 (m : Int)) ∧ r__ 32 = (.int .i64 (i : Int))
      refine zT I19 _ ⟨0, 0, rfl, hH, Nat.zero_le _, rfl, rfl, rfl, rfl, rfl, rfl, rfl, rfl, rfl, rfl⟩ ?_
      rintro n_ r22 w20 ⟨i, y, rfl, hH21, hi, hy, e18_0, e18_1, e18_4, e18_5, e18_6, e18_7, e18_29, e18_31, e18_32⟩
      have hb0 := beVal_nonneg (s.take i)
      have hb1 : i < m → beVal (s.take i) < 36028797018963968 := fun h => beVal_lt h (by omega) (by omega) (.inr (first_byte (by simpa using hx12) (by omega)))
      refine wp_seq_k fun K23 hK23 => ?_
      refine zb ?_
      refine za (zL (a := (i : Int)) (b := (m : Int)) e18_32 e18_31 ?_)
      refine zf ?_
      refine zc (hK23 _ _ ?_)
      refine wp_seq_k fun K24 hK24 => ?_
      refine zt rfl (fun h25 => ?_) (fun h25 => ?_)
      ·
       refine wp_skip ?_
       refine zc (hK24 _ _ ?_)
       refine wp_seq_k fun K26 hK26 => ?_
       refine wp_block ?_
       refine wp_seq_k fun K27 hK27 => ?_
       refine zb ?_
       refine za (zd (v := (.int .i64 (i : Int))) e18_32 ?_)
       refine za (ze (v := (.int .i64 (i : Int))) rfl ?_)
       refine zf ?_
       refine zc (hK27 _ _ ?_)
       refine zb ?_
       refine za (zd (v := (.int .i64 y)) e18_7 ?_)
       refine za (o_shl (c := y * 256) rfl rfl (by omega) (shl_lit (by omega) (by omega) rfl) ?_)
       refine za (zd (v := (S s)) e18_0 ?_)
       refine za (zd (v := (.int .i64 (i : Int))) rfl ?_)
       obtain ⟨c28, hx29⟩ : ∃ x_, s[((i : Int)).toNat]? = some x_ := zM (by omega)
       have c28_lt := c28.toNat_lt
       refine za (o_sidx Tryz.underlying9 rfl rfl (by omega) hx29 ?_)
       refine za (ya Tryz.underlying5 Tryz.underlying3 rfl (w_u8 _) ?_)
       refine za (o_or (c := y * 256 + (c28.toNat : Int)) rfl rfl (or8 (by omega) (by omega) _) ?_)
       refine za (ze (v := (.int .i64 (y * 256 + (c28.toNat : Int)))) rfl ?_)
       refine zf ?_
       refine zG ?_
       refine zc (hK26 _ _ ?_)
       refine zb ?_
       refine za (zH (a := (i : Int)) (b := 1) e18_32 rfl (w64 (by omega) (by omega)) ?_)
       refine za (zd (v := (.int .i64 ((i : Int) + 1))) rfl ?_)
       refine zf ?_
       refine zc ⟨m - (i + 1), _, rfl, ?_, ?_⟩
       · omega
       · exact ⟨(i + 1), (y * 256 + (c28.toNat : Int)), rfl, hH21, (by omega), (by rw [zO (by simpa using hx29), beVal_snoc, ← hy]), e18_0, e18_1, e18_4, e18_5, e18_6, rfl, e18_29, e18_31, rfl⟩
      ·
       refine wp_exit ?_
       refine zx (zx (x_in (?_)))
       refine zc (hK16 _ _ ?_)
       refine wp_seq_k fun K30 hK30 => ?_
       refine Rest.region mixed (by kernel_rfl) ?_
       have hH31 : Has E { w20 with drawn := w20.drawn + 1 } [R] := Has0.drew hH21 _
       refine Rest.phaseA (fun w_ => Has E w_ []) 0 5 5 rfl (by decide) (by kernel_rfl) ?_
       refine zr 0 rfl (by kernel_rfl) (fun w_ h_ => zd (v := (.int .i64 y)) e18_7 ⟨rfl, rfl⟩) ?_
       refine zr 1 rfl (by kernel_rfl) (fun w_ h_ => zd (v := (S s)) e18_0 ⟨rfl, rfl⟩) ?_
       refine zr 2 rfl (by kernel_rfl) (fun w_ h_ => zd (v := (.int .i64 (m : Int))) e18_1 ⟨rfl, rfl⟩) ?_
       refine zr 3 rfl (by kernel_rfl) (fun w_ h_ => o_ssl_l Tryz.underlying9 rfl rfl (by omega) (by omega) ⟨rfl, rfl⟩) ?_
       refine zr 4 rfl (by kernel_rfl) (fun w_ h_ => ze (v := (.int .i64 y)) rfl ⟨rfl, rfl⟩) ?_
       have hH32 : Has E { w20 with drawn := w20.drawn + 1 } [] := hH31.first 0 rfl
       refine zQ (by kernel_rfl) hH32 ?_
       refine zP 5 rfl (by kernel_rfl) (ze (v := (S (s.drop ((m : Int)).toNat))) rfl ?_)
       refine zP 6 rfl (by kernel_rfl) (ze (v := (.bool true)) rfl ?_)
       refine Rest.done (by kernel_rfl) ?_
       refine zc (hK30 _ _ ?_)
       refine wp_ret ?_
       refine c_ret3 Tryz.results276  (v := (.int .i64 y)) rfl (x := (S (s.drop ((m : Int)).toNat))) rfl (y := (.bool true)) rfl ?_
       have e : i = m := by omega
       rw [e] at hy
       exact ⟨by rw [takeS_yes (by omega) (by omega) (by omega) (.inr (first_byte (by simpa using hx12) (by omega))), hy]; rfl, hH31⟩
    ·
     refine zi (b' := false) 24 rfl (cF h10) rfl ?_
     refine zi (b' := false) 24 rfl (cF h10) rfl ?_
     refine zi (b' := false) 24 rfl (cF h10) rfl ?_
     refine zn 21 rfl (cF h8) (zm (u := (.bool false)) ((rfl : _ = _).trans (cF h10)) rfl ?_)
     refine za (zm (u := (.bool false)) ((rfl : _ = _).trans (cF h8)) rfl ?_)
     refine zf ?_
     refine zc (hK3 _ _ ?_)
     refine zS rfl rfl ?_
     refine wp_skip ?_
     refine zc (hK2 _ _ ?_)
     refine wp_seq_k fun K33 hK33 => ?_
     refine zb ?_
     refine za (ze (v := (.int .i64 0)) rfl ?_)
     refine zf ?_
     refine zc (hK33 _ _ ?_)
     refine wp_seq_k fun K34 hK34 => ?_
     refine wp_seq_k fun K35 hK35 => ?_
     refine zb ?_
     refine za (zd (v := (.int .i64 (m : Int))) rfl ?_)
     refine za (zd (v := (.int .i64 0)) rfl ?_)
     refine zf ?_
     refine zc (hK35 _ _ ?_)
     refine wp_block ?_
     let I37 : Nat → (Nat → Value) → World → Prop := fun n__ r__ w__ => ∃ (i : Nat) (y : Int), n__ = m - i ∧ Has E w__ [R] ∧ (i ≤ m) ∧ (y = beVal (s.take i)) ∧ r__ 0 = (S s) ∧ r__ 1 = (.int .i64 (m : Int)) ∧ r__ 4 = (.int .i64 0) ∧ r__ 5 = (S ([] : List UInt8)) ∧ r__ 6 = (.bool false) ∧ r__ 7 = (.int .i64 y) ∧ r__ 29 = (.bool false) ∧ r__ 31 = (.int .i64 (m : Int)) ∧ r__ 32 = (.int .i64 (i : Int))
     refine zT I37 _ ⟨0, 0, rfl, hH, Nat.zero_le _, rfl, rfl, rfl, rfl, rfl, rfl, rfl, rfl, rfl, rfl⟩ ?_
     rintro n_ r40 w38 ⟨i, y, rfl, hH39, hi, hy, e36_0, e36_1, e36_4, e36_5, e36_6, e36_7, e36_29, e36_31, e36_32⟩
     have hb0 := beVal_nonneg (s.take i)
     have hb1 : i < m → beVal (s.take i) < 36028797018963968 := fun h => beVal_lt h (by omega) (by omega) (.inl (by omega))
     refine wp_seq_k fun K41 hK41 => ?_
     refine zb ?_
     refine za (zL (a := (i : Int)) (b := (m : Int)) e36_32 e36_31 ?_)
     refine zf ?_
     refine zc (hK41 _ _ ?_)
     refine wp_seq_k fun K42 hK42 => ?_
     refine zt rfl (fun h43 => ?_) (fun h43 => ?_)
     ·
      refine wp_skip ?_
      refine zc (hK42 _ _ ?_)
      refine wp_seq_k fun K44 hK44 => ?_
      refine wp_block ?_
      refine wp_seq_k fun K45 hK45 => ?_
      refine zb ?_
      refine za (zd (v := (.int .i64 (i : Int))) e36_32 ?_)
      refine za (ze (v := (.int .i64 (i : Int))) rfl ?_)
      refine zf ?_
      refine zc (hK45 _ _ ?_)
      refine zb ?_
      refine za (zd (v := (.int .i64 y)) e36_7 ?_)
      refine za (o_shl (c := y * 256) rfl rfl (by omega) (shl_lit (by omega) (by omega) rfl) ?_)
      refine za (zd (v := (S s)) e36_0 ?_)
      refine za (zd (v := (.int .i64 (i : Int))) rfl ?_)
      obtain ⟨c46, hx47⟩ : ∃ x_, s[((i : Int)).toNat]? = some x_ := zM (by omega)
      have c46_lt := c46.toNat_lt
      refine za (o_sidx Tryz.underlying9 rfl rfl (by omega) hx47 ?_)
      refine za (ya Tryz.underlying5 Tryz.underlying3 rfl (w_u8 _) ?_)
      refine za (o_or (c := y * 256 + (c46.toNat : Int)) rfl rfl (or8 (by omega) (by omega) _) ?_)
      refine za (ze (v := (.int .i64 (y * 256 + (c46.toNat : Int)))) rfl ?_)
      refine zf ?_
      refine zG ?_
      refine zc (hK44 _ _ ?_)
      refine zb ?_
      refine za (zH (a := (i : Int)) (b := 1) e36_32 rfl (w64 (by omega) (by omega)) ?_)
      refine za (zd (v := (.int .i64 ((i : Int) + 1))) rfl ?_)
      refine zf ?_
      refine zc ⟨m - (i + 1), _, rfl, ?_, ?_⟩
      · omega
      · exact ⟨(i + 1), (y * 256 + (c46.toNat : Int)), rfl, hH39, (by omega), (by rw [zO (by simpa using hx47), beVal_snoc, ← hy]), e36_0, e36_1, e36_4, e36_5, e36_6, rfl, e36_29, e36_31, rfl⟩
     ·
      refine wp_exit ?_
      refine zx (zx (x_in (?_)))
      refine zc (hK34 _ _ ?_)
      refine wp_seq_k fun K48 hK48 => ?_
      refine Rest.region mixed (by kernel_rfl) ?_
      have hH49 : Has E { w38 with drawn := w38.drawn + 1 } [R] := Has0.drew hH39 _
      refine Rest.phaseA (fun w_ => Has E w_ []) 0 5 5 rfl (by decide) (by kernel_rfl) ?_
      refine zr 0 rfl (by kernel_rfl) (fun w_ h_ => zd (v := (.int .i64 y)) e36_7 ⟨rfl, rfl⟩) ?_
      refine zr 1 rfl (by kernel_rfl) (fun w_ h_ => zd (v := (S s)) e36_0 ⟨rfl, rfl⟩) ?_
      refine zr 2 rfl (by kernel_rfl) (fun w_ h_ => zd (v := (.int .i64 (m : Int))) e36_1 ⟨rfl, rfl⟩) ?_
      refine zr 3 rfl (by kernel_rfl) (fun w_ h_ => o_ssl_l Tryz.underlying9 rfl rfl (by omega) (by omega) ⟨rfl, rfl⟩) ?_
      refine zr 4 rfl (by kernel_rfl) (fun w_ h_ => ze (v := (.int .i64 y)) rfl ⟨rfl, rfl⟩) ?_
      have hH50 : Has E { w38 with drawn := w38.drawn + 1 } [] := hH49.first 0 rfl
      refine zQ (by kernel_rfl) hH50 ?_
      refine zP 5 rfl (by kernel_rfl) (ze (v := (S (s.drop ((m : Int)).toNat))) rfl ?_)
      refine zP 6 rfl (by kernel_rfl) (ze (v := (.bool true)) rfl ?_)
      refine Rest.done (by kernel_rfl) ?_
      refine zc (hK48 _ _ ?_)
      refine wp_ret ?_
      refine c_ret3 Tryz.results276  (v := (.int .i64 y)) rfl (x := (S (s.drop ((m : Int)).toNat))) rfl (y := (.bool true)) rfl ?_
      have e : i = m := by omega
      rw [e] at hy
      exact ⟨by rw [takeS_yes (by omega) (by omega) (by omega) (.inl (by omega)), hy]; rfl, hH49⟩
end Go.Q
namespace Go.Q
def bpV (b : Nat) : Value := .pointer (some ⟨b, 0, none⟩)
/- An object's heaplets as one, and told apart. -/
theorem Has.cl2 {E w : World} {a b : List Hp} {ss : List (List Hp)} (H : Has E w (a :: b :: ss)) : Has E w ((a ++ b) :: ss) := by
 unfold Has at *; simpa only [List.flatten_cons, List.append_assoc] using H
theorem Has.op2 {E w : World} {a b : List Hp} {ss : List (List Hp)} (H : Has E w ((a ++ b) :: ss)) : Has E w (a :: b :: ss) := by
 unfold Has at *; simpa only [List.flatten_cons, List.append_assoc] using H
structure DEnt (κ σ : Type) where
 key : κ
 b : Nat
 sg : List Hp
 val : σ
section
variable {κ σ : Type} [DecidableEq κ]
/-- Where each object is. -/
def wher (L : List (DEnt κ σ)) : List (κ × Nat) := L.map fun x => (x.key, x.b)
def what (L : List (DEnt κ σ)) : List (κ × σ) := L.map fun x => (x.key, x.val)
def DirAt (gk : κ → Value) (At : Nat → List Hp → σ → Prop) (mb : Nat) (sg : List Hp) (t : List (κ × σ)) : Prop :=
 ∃ es c L, sg = [Hp.one mb (.map es c)] ++ L.flatMap (·.sg) ∧ MapV gk bpV es c (wher L) ∧ (∀ x ∈ L, At x.b x.sg x.val) ∧ what L = t
def DirRd (gk : κ → Value) (Rd : List Hp → Nat → σ → Prop) (R : List Hp) (mb : Nat) (t : List (κ × σ)) : Prop :=
 ∃ es c L, Hp.one mb (.map es c) ∈ R ∧ MapV gk bpV es c (wher L) ∧ (∀ x ∈ L, Rd R x.b x.val) ∧ what L = t
/-- All but the object of one key, whose block is b. -/
def DirHole (gk : κ → Value) (At : Nat → List Hp → σ → Prop) (mb : Nat) (k : κ) (b : Nat) (sr : List Hp) (t : List (κ × σ)) : Prop :=
 ∃ es c A B v sx, sr = [Hp.one mb (.map es c)] ++ (A.flatMap (·.sg) ++ B.flatMap (·.sg)) ∧ MapV gk bpV es c (wher (A ++ ⟨k, b, sx, v⟩ :: B)) ∧ (∀ x ∈ A ++ B, At x.b x.sg x.val) ∧ what (A ++ ⟨k, b, sx, v⟩ :: B) = t
omit [DecidableEq κ] in
theorem DirRd.mono {gk : κ → Value} {Rd : List Hp → Nat → σ → Prop} {R R' : List Hp} {mb : Nat} {t : List (κ × σ)} (hm : ∀ {R R' : List Hp} {b : Nat} {v : σ}, Rd R b v → R ⊆ R' → Rd R' b v) (h : DirRd gk Rd R mb t) (hs : R ⊆ R') : DirRd gk Rd R' mb t := by
 obtain ⟨es, c, L, h1, h2, h3, h4⟩ := h
 exact ⟨es, c, L, hs h1, h2, fun x hx => hm (h3 x hx) hs, h4⟩
omit [DecidableEq κ] in
theorem DirAt.rd {gk : κ → Value} {At : Nat → List Hp → σ → Prop} {Rd : List Hp → Nat → σ → Prop} {mb : Nat} {sg : List Hp} {t : List (κ × σ)} (hm : ∀ {R R' : List Hp} {b : Nat} {v : σ}, Rd R b v → R ⊆ R' → Rd R' b v)
  (ha : ∀ {b : Nat} {sg : List Hp} {v : σ}, At b sg v → Rd sg b v) (h : DirAt gk At mb sg t) : DirRd gk Rd sg mb t := by
 obtain ⟨es, c, L, rfl, h2, h3, h4⟩ := h
 exact ⟨es, c, L, by simp, h2, fun x hx => hm (ha (h3 x hx)) fun y hy => List.mem_append_right _ (List.mem_flatMap.2 ⟨x, hx, hy⟩), h4⟩
omit [DecidableEq κ] in
theorem DirAt.new {gk : κ → Value} {At : Nat → List Hp → σ → Prop} {mb : Nat} : DirAt gk At mb [Hp.one mb (.map #[] 0)] ([] : List (κ × σ)) := ⟨#[], 0, [], by simp, MapV.nil, by simp, rfl⟩
omit [DecidableEq κ] in
theorem what_keys (L : List (DEnt κ σ)) : (what L).map (·.1) = (wher L).map (·.1) := by simp [what, wher, Function.comp_def]
omit [DecidableEq κ] in
theorem DirAt.nodup {gk : κ → Value} {At : Nat → List Hp → σ → Prop} {mb : Nat} {sg : List Hp} {t : List (κ × σ)} (h : DirAt gk At mb sg t) : (t.map (·.1)).Nodup := by
 obtain ⟨es, c, L, _, h2, _, rfl⟩ := h
 rw [what_keys]; exact h2.nodup
omit [DecidableEq κ] in
theorem DirRd.nodup {gk : κ → Value} {Rd : List Hp → Nat → σ → Prop} {R : List Hp} {mb : Nat} {t : List (κ × σ)} (h : DirRd gk Rd R mb t) : (t.map (·.1)).Nodup := by
 obtain ⟨es, c, L, _, h2, _, rfl⟩ := h
 rw [what_keys]; exact h2.nodup
theorem DirHole.get {gk : κ → Value} {At : Nat → List Hp → σ → Prop} {mb b : Nat} {k : κ} {sr : List Hp} {t : List (κ × σ)} (h : DirHole gk At mb k b sr t) : (getB t k).isSome = true := by
 obtain ⟨es, c, A, B, v0, sx0, rfl, h2, h3, rfl⟩ := h
 rw [getB_mem]; simp [what]
section ops
variable {P : Program} {ρ : Operand → Value} {E w : World} {ss : List (List Hp)} {K : Value → World → Prop} {dst : Option Tmp} {T : TypeId} {pos : String} {after : Array Edge} {g : Option (Nat × Bool)} {gk : κ → Value} {At : Nat → List Hp → σ → Prop} {Rd : List Hp → Nat → σ → Prop}
end ops
end
end Go.Q
namespace Go.Q
open Go.Proofs
set_option linter.unusedVariables false
set_option maxRecDepth 100000
attribute [local irreducible] wpList OK Code.wp
def StmAt (db : Nat) (ab : Nat) (b : Nat) (sg : List Hp) (v : StmS) : Prop := ∃ (x7 : Value) (h7 : List Hp), sg = ([Hp.one b (.cells #[(.int .i64 v.seq), (.int .i64 v.ep), (.int .i64 v.hcut), (.int .i64 v.st), (.int .i64 v.mrk), (.pointer (some ⟨db, 0, none⟩)), (.pointer (some ⟨ab, 0, none⟩)), x7, (.int .i64 v.tail), (.int .i64 v.flushed), (.int .i64 v.res), (.bool v.cut), (.int .i64 v.err)] 175 (0, 0))] ++ h7) ∧ (OwnL 42 3 x7 v.l.length (v.l.flatMap enC) h7)
def StmRd (db : Nat) (ab : Nat) (R : List Hp) (b : Nat) (v : StmS) : Prop := ∃ (x7 : Value), CellsAt R b 0 [(.int .i64 v.seq), (.int .i64 v.ep), (.int .i64 v.hcut), (.int .i64 v.st), (.int .i64 v.mrk), (.pointer (some ⟨db, 0, none⟩)), (.pointer (some ⟨ab, 0, none⟩)), x7, (.int .i64 v.tail), (.int .i64 v.flushed), (.int .i64 v.res), (.bool v.cut), (.int .i64 v.err)] ∧ (Sl R 3 x7 v.l.length (v.l.flatMap enC))
theorem StmAt.mk {db : Nat} {ab : Nat} {b : Nat} {v : StmS} {x7 : Value} {h7 : List Hp} (f7 : OwnL 42 3 x7 v.l.length (v.l.flatMap enC) h7) : StmAt db ab b (([Hp.one b (.cells #[(.int .i64 v.seq), (.int .i64 v.ep), (.int .i64 v.hcut), (.int .i64 v.st), (.int .i64 v.mrk), (.pointer (some ⟨db, 0, none⟩)), (.pointer (some ⟨ab, 0, none⟩)), x7, (.int .i64 v.tail), (.int .i64 v.flushed), (.int .i64 v.res), (.bool v.cut), (.int .i64 v.err)] 175 (0, 0))] ++ h7)) v := ⟨_, _, rfl, f7⟩
theorem StmRd.mk {db : Nat} {ab : Nat} {R : List Hp} {b : Nat} {v : StmS} {x7 : Value} (hc : CellsAt R b 0 [(.int .i64 v.seq), (.int .i64 v.ep), (.int .i64 v.hcut), (.int .i64 v.st), (.int .i64 v.mrk), (.pointer (some ⟨db, 0, none⟩)), (.pointer (some ⟨ab, 0, none⟩)), x7, (.int .i64 v.tail), (.int .i64 v.flushed), (.int .i64 v.res), (.bool v.cut), (.int .i64 v.err)]) (f7 : Sl R 3 x7 v.l.length (v.l.flatMap enC)) : StmRd db ab R b v := ⟨_, hc, f7⟩
theorem StmRd.mono {db : Nat} {ab : Nat} {R R' : List Hp} {b : Nat} {v : StmS} (h : StmRd db ab R b v) (hs : R ⊆ R') : StmRd db ab R' b v := by
 obtain ⟨x7, hc, f7⟩ := h
 exact StmRd.mk (hc.mono hs) (f7.mono hs)
theorem StmAt.rd {db : Nat} {ab : Nat} {b : Nat} {sg : List Hp} {v : StmS} (h : StmAt db ab b sg v) : StmRd db ab sg b v := by
 obtain ⟨x7, h7, rfl, f7⟩ := h
 exact StmRd.mk ((CellsAt.one rfl).mono (fun _ g_ => List.mem_append_left _ g_)) (f7.sl.mono (fun _ g_ => List.mem_append_right _ (g_)))
set_option maxHeartbeats 4000000 in
theorem alenr_c {E w : World} {R : List Hp} (hH : Has E w [R]) {db ab : Nat} {fr n : Int} (hc : CellsAt R ab 0 [.pointer (some ⟨db, 0, none⟩), .int .i64 fr, .int .i64 n]) (hn : 1 ≤ n ∧ n ≤ 4096) :
  Calls Tryz.prog 99 #[(.pointer (some ⟨ab, 0, none⟩))] w fun e w' => e = .returned (.int .i64 (n * 64)) ∧ Has E w' [R] := by
 obtain ⟨hn1, hn2⟩ := hn
 refine zs (args := [(.pointer (some ⟨ab, 0, none⟩))]) Tryz.func99 rfl Tryz.ntmps99 (by simp) ?_
 refine wp_seq_k fun K1 hK1 => ?_
 refine zb ?_
 refine za (ze (v := (.int .i64 0)) rfl ?_)
 refine zf ?_
 refine zc (hK1 _ _ ?_)
 refine wp_seq_k fun K2 hK2 => ?_
 refine wp_seq_k fun K3 hK3 => ?_
 refine zb ?_
 refine za (zd (v := (.pointer (some ⟨ab, 0, none⟩))) rfl ?_)
 refine za (o_pnil (p := some _) Tryz.underlying160 rfl rfl ?_)
 refine zf ?_
 refine zc (hK3 _ _ ?_)
 refine zS rfl rfl ?_
 refine wp_skip ?_
 refine zc (hK2 _ _ ?_)
 refine wp_seq_k fun K4 hK4 => ?_
 refine zb ?_
 refine za (zd (v := (.pointer (some ⟨ab, 0, none⟩))) rfl ?_)
 refine za (zl rfl ?_)
 refine za (zg (k := 2) (fun _ => by kernel_rfl) rfl ?_)
 refine za (zj (v := (.int .i64 n)) Tryz.underlying3 rfl rfl hH (zh 0 rfl) (CellsAt.field (k := 2) (ds := [(.int .i64 n)]) hc rfl) ?_)
 refine za (o_mul (a := n) (b := 64) rfl rfl (w64 (by omega) (by omega)) ?_)
 refine za (ze (v := (.int .i64 (n * 64))) rfl ?_)
 refine zf ?_
 refine zc (hK4 _ _ ?_)
 refine wp_ret ?_
 refine zq Tryz.results99  (v := (.int .i64 (n * 64))) rfl ?_
 exact ⟨rfl, hH⟩
set_option maxHeartbeats 4000000 in
theorem serr_c {E w : World} {R : List Hp} {sb : Nat} {db : Nat} {ab : Nat} {v : StmS}  (hH : Has E w [R]) (h_sb : StmRd db ab R sb v) :
  Calls Tryz.prog 39 #[(.pointer (some ⟨sb, 0, none⟩))] w fun e w' => e = .returned (.int .i64 v.err) ∧ Has E w' [R] := by
 obtain ⟨x1, hc3, f2⟩ := h_sb
 have f2_n := f2.le
 refine zs (args := [(.pointer (some ⟨sb, 0, none⟩))]) Tryz.func39 rfl Tryz.ntmps39 (by simp) ?_
 refine wp_seq_k fun K4 hK4 => ?_
 refine zb ?_
 refine za (ze (v := (.int .i64 0)) rfl ?_)
 refine zf ?_
 refine zc (hK4 _ _ ?_)
 refine wp_seq_k fun K5 hK5 => ?_
 refine wp_seq_k fun K6 hK6 => ?_
 refine zb ?_
 refine za (zd (v := (.pointer (some ⟨sb, 0, none⟩))) rfl ?_)
 refine za (o_pnil (p := some _) Tryz.underlying34 rfl rfl ?_)
 refine zf ?_
 refine zc (hK6 _ _ ?_)
 refine zS rfl rfl ?_
 refine wp_skip ?_
 refine zc (hK5 _ _ ?_)
 refine wp_seq_k fun K7 hK7 => ?_
 refine zb ?_
 refine za (zd (v := (.pointer (some ⟨sb, 0, none⟩))) rfl ?_)
 refine za (zl rfl ?_)
 refine za (zg (k := 12) (fun _ => by kernel_rfl) rfl ?_)
 refine za (zj (v := (.int .i64 v.err)) Tryz.underlying28 rfl rfl hH (zh 0 rfl) (CellsAt.field (k := 12) (ds := [(.int .i64 v.err)]) hc3 rfl) ?_)
 refine za (ze (v := (.int .i64 v.err)) rfl ?_)
 refine zf ?_
 refine zc (hK7 _ _ ?_)
 refine wp_ret ?_
 refine zq Tryz.results39  (v := (.int .i64 v.err)) rfl ?_
 exact ⟨rfl, hH⟩
set_option maxHeartbeats 4000000 in
theorem sready_c {E w : World} {R : List Hp} {sb : Nat} {db : Nat} {ab : Nat} {v : StmS}  (hH : Has E w [R]) (h_sb : StmRd db ab R sb v) :
  Calls Tryz.prog 106 #[(.pointer (some ⟨sb, 0, none⟩))] w fun e w' => e = .returned (.int .i64 (readyE v)) ∧ Has E w' [R] := by
 obtain ⟨x1, hc3, f2⟩ := h_sb
 have f2_n := f2.le
 refine zs (args := [(.pointer (some ⟨sb, 0, none⟩))]) Tryz.func106 rfl Tryz.ntmps106 (by simp) ?_
 refine wp_seq_k fun K4 hK4 => ?_
 refine zb ?_
 refine za (ze (v := (.int .i64 0)) rfl ?_)
 refine zf ?_
 refine zc (hK4 _ _ ?_)
 refine wp_seq_k fun K5 hK5 => ?_
 refine wp_seq_k fun K6 hK6 => ?_
 refine zb ?_
 refine za (zd (v := (.pointer (some ⟨sb, 0, none⟩))) rfl ?_)
 refine za (zk (vs := #[(.pointer (some ⟨sb, 0, none⟩))]) ca39 rfl (zF rfl) (serr_c (v := v) (db := db) (ab := ab) hH.all ((StmRd.mk hc3 f2).mono (zh 0 rfl))) ?_)
 rintro _ w9 ⟨rfl, hX7⟩
 refine ⟨_, rfl, ?_⟩
 have hH8 := hX7.of_all
 refine za (ze (v := (.int .i64 v.err)) rfl ?_)
 refine zf ?_
 refine zc (hK6 _ _ ?_)
 refine wp_seq_k fun K10 hK10 => ?_
 refine zb ?_
 refine za (zd (v := (.int .i64 v.err)) rfl ?_)
 refine za (o_neq (a := v.err) (b := 0) rfl rfl ?_)
 refine zf ?_
 refine zc (hK10 _ _ ?_)
 refine zt rfl (fun h11 => ?_) (fun h11 => ?_)
 ·
  refine wp_seq_k fun K12 hK12 => ?_
  refine zb ?_
  refine za (zd (v := (.int .i64 v.err)) rfl ?_)
  refine za (ze (v := (.int .i64 v.err)) rfl ?_)
  refine zf ?_
  refine zc (hK12 _ _ ?_)
  refine wp_ret ?_
  refine zv (zq Tryz.results106  (v := (.int .i64 v.err)) rfl ?_)
  have q13 : (readyE v) = v.err := by unfold readyE; simp [h11]
  exact ⟨by rw [q13], hH8⟩
 ·
  refine wp_skip ?_
  refine zc (hK5 _ _ ?_)
  refine wp_seq_k fun K14 hK14 => ?_
  refine wp_seq_k fun K15 hK15 => ?_
  refine zb ?_
  refine za (zd (v := (.pointer (some ⟨sb, 0, none⟩))) rfl ?_)
  refine za (zl rfl ?_)
  refine za (zg (k := 11) (fun _ => by kernel_rfl) rfl ?_)
  refine za (zj (v := (.bool v.cut)) Tryz.underlying4 rfl rfl hH8 (zh 0 rfl) (CellsAt.field (k := 11) (ds := [(.bool v.cut)]) hc3 rfl) ?_)
  refine za (o_not rfl ?_)
  refine zf ?_
  refine zc (hK15 _ _ ?_)
  refine zX rfl (fun h16 => ?_) (fun h16 => ?_)
  ·
   have h16_n : v.cut = false := by first | simpa using h16 | exact Bool.of_not_eq_true (fun g_ => by rw [g_] at h16; cases h16)
   refine wp_seq_k fun K17 hK17 => ?_
   refine zb ?_
   refine za (ze (v := (.int .i64 12)) rfl ?_)
   refine zf ?_
   refine zc (hK17 _ _ ?_)
   refine wp_ret ?_
   refine zv (zq Tryz.results106  (v := (.int .i64 12)) rfl ?_)
   have q18 : (readyE v) = 12 := by unfold readyE; simp [h11, h16, h16_n]
   exact ⟨by rw [q18], hH8⟩
  ·
   have h16_n : v.cut = true := by first | simpa using h16 | exact Bool.of_not_eq_false (fun g_ => by rw [g_] at h16; cases h16)
   refine wp_skip ?_
   refine zc (hK14 _ _ ?_)
   refine wp_seq_k fun K19 hK19 => ?_
   refine zb ?_
   refine za (ze (v := (.int .i64 0)) rfl ?_)
   refine zf ?_
   refine zc (hK19 _ _ ?_)
   refine wp_ret ?_
   refine zq Tryz.results106  (v := (.int .i64 0)) rfl ?_
   have q20 : (readyE v) = 0 := by unfold readyE; simp [h11, h16, h16_n]
   exact ⟨by rw [q20], hH8⟩
set_option maxHeartbeats 4000000 in
theorem sstays_c {E w : World} {R : List Hp} {sb : Nat} {sg_sb : List Hp} {db : Nat} {ab : Nat} {v : StmS} {e_ : Int}  (hH : Has E w [sg_sb, R]) (h_sb : StmAt db ab sb sg_sb v) :
  Calls Tryz.prog 109 #[(.pointer (some ⟨sb, 0, none⟩)), (.int .i64 e_)] w fun e w' => ∃ (sg_sb' : List Hp), e = .returned (.int .i64 e_) ∧ (StmAt db ab sb sg_sb' (stays v e_)) ∧ Has E w' [sg_sb', R] := by
 obtain ⟨x1, s2, rfl, f3⟩ := h_sb
 have hH4 : Has E w [[Hp.one sb (.cells #[(.int .i64 v.seq), (.int .i64 v.ep), (.int .i64 v.hcut), (.int .i64 v.st), (.int .i64 v.mrk), (.pointer (some ⟨db, 0, none⟩)), (.pointer (some ⟨ab, 0, none⟩)), x1, (.int .i64 v.tail), (.int .i64 v.flushed), (.int .i64 v.res), (.bool v.cut), (.int .i64 v.err)] 175 (0, 0))], s2, R] := Has.op2 hH
 refine zs (args := [(.pointer (some ⟨sb, 0, none⟩)), (.int .i64 e_)]) Tryz.func109 rfl Tryz.ntmps109 (by simp) ?_
 refine wp_seq_k fun K5 hK5 => ?_
 refine zb ?_
 refine za (ze (v := (.int .i64 0)) rfl ?_)
 refine zf ?_
 refine zc (hK5 _ _ ?_)
 refine wp_seq_k fun K6 hK6 => ?_
 refine wp_seq_k fun K7 hK7 => ?_
 refine zb ?_
 refine za (zd (v := (.int .i64 e_)) rfl ?_)
 refine za (yd (a := e_) (b := 6) rfl rfl ?_)
 refine zf ?_
 refine zc (hK7 _ _ ?_)
 refine zt rfl (fun h8 => ?_) (fun h8 => ?_)
 ·
  refine zb ?_
  refine za (zd (v := (.pointer (some ⟨sb, 0, none⟩))) rfl ?_)
  refine za (zd (v := (.int .i64 e_)) rfl ?_)
  refine za (zl rfl ?_)
  refine za (zg (k := 12) (fun _ => by kernel_rfl) rfl ?_)
  refine zB (zJ (c' := #[(.int .i64 v.seq), (.int .i64 v.ep), (.int .i64 v.hcut), (.int .i64 v.st), (.int .i64 v.mrk), (.pointer (some ⟨db, 0, none⟩)), (.pointer (some ⟨ab, 0, none⟩)), x1, (.int .i64 v.tail), (.int .i64 v.flushed), (.int .i64 v.res), (.bool v.cut), (.int .i64 e_)]) ti28 rfl rfl rfl (by simp) rfl (hH4.front 0 rfl) fun w9 hH10 => ?_)
  refine zf ?_
  refine zc (hK6 _ _ ?_)
  refine wp_seq_k fun K11 hK11 => ?_
  refine zb ?_
  refine za (zd (v := (.int .i64 e_)) rfl ?_)
  refine za (ze (v := (.int .i64 e_)) rfl ?_)
  refine zf ?_
  refine zc (hK11 _ _ ?_)
  refine wp_ret ?_
  refine zq Tryz.results109  (v := (.int .i64 e_)) rfl ?_
  have hH12 : Has E w9 [([Hp.one sb (.cells #[(.int .i64 v.seq), (.int .i64 v.ep), (.int .i64 v.hcut), (.int .i64 v.st), (.int .i64 v.mrk), (.pointer (some ⟨db, 0, none⟩)), (.pointer (some ⟨ab, 0, none⟩)), x1, (.int .i64 v.tail), (.int .i64 v.flushed), (.int .i64 v.res), (.bool v.cut), (.int .i64 e_)] 175 (0, 0))] ++ s2), R] := Has.cl2 ((hH10.front 1 rfl).front 1 rfl)
  have hd13 : StmAt db ab sb ([Hp.one sb (.cells #[(.int .i64 v.seq), (.int .i64 v.ep), (.int .i64 v.hcut), (.int .i64 v.st), (.int .i64 v.mrk), (.pointer (some ⟨db, 0, none⟩)), (.pointer (some ⟨ab, 0, none⟩)), x1, (.int .i64 v.tail), (.int .i64 v.flushed), (.int .i64 v.res), (.bool v.cut), (.int .i64 e_)] 175 (0, 0))] ++ s2) (⟨v.seq, v.ep, v.hcut, v.st, v.mrk, v.l, v.tail, v.flushed, v.res, v.cut, e_⟩ : StmS) := StmAt.mk (v := (⟨v.seq, v.ep, v.hcut, v.st, v.mrk, v.l, v.tail, v.flushed, v.res, v.cut, e_⟩ : StmS)) f3
  have q14 : (stays v e_) = (⟨v.seq, v.ep, v.hcut, v.st, v.mrk, v.l, v.tail, v.flushed, v.res, v.cut, e_⟩ : StmS) := by unfold stays; rw [if_pos h8]; rw [h8]
  exact ⟨_, rfl, (by rw [q14]; exact hd13), hH12⟩
 ·
  refine wp_skip ?_
  refine zc (hK6 _ _ ?_)
  refine wp_seq_k fun K15 hK15 => ?_
  refine zb ?_
  refine za (zd (v := (.int .i64 e_)) rfl ?_)
  refine za (ze (v := (.int .i64 e_)) rfl ?_)
  refine zf ?_
  refine zc (hK15 _ _ ?_)
  refine wp_ret ?_
  refine zq Tryz.results109  (v := (.int .i64 e_)) rfl ?_
  have hH16 : Has E w [([Hp.one sb (.cells #[(.int .i64 v.seq), (.int .i64 v.ep), (.int .i64 v.hcut), (.int .i64 v.st), (.int .i64 v.mrk), (.pointer (some ⟨db, 0, none⟩)), (.pointer (some ⟨ab, 0, none⟩)), x1, (.int .i64 v.tail), (.int .i64 v.flushed), (.int .i64 v.res), (.bool v.cut), (.int .i64 v.err)] 175 (0, 0))] ++ s2), R] := Has.cl2 ((hH4.front 1 rfl).front 1 rfl)
  have hd17 : StmAt db ab sb ([Hp.one sb (.cells #[(.int .i64 v.seq), (.int .i64 v.ep), (.int .i64 v.hcut), (.int .i64 v.st), (.int .i64 v.mrk), (.pointer (some ⟨db, 0, none⟩)), (.pointer (some ⟨ab, 0, none⟩)), x1, (.int .i64 v.tail), (.int .i64 v.flushed), (.int .i64 v.res), (.bool v.cut), (.int .i64 v.err)] 175 (0, 0))] ++ s2) v := StmAt.mk (v := v) f3
  have q18 : (stays v e_) = v := by unfold stays; rw [if_neg h8]
  exact ⟨_, rfl, (by rw [q18]; exact hd17), hH16⟩
set_option maxHeartbeats 4000000 in
theorem slast_c {E w : World} {R : List Hp} {sb : Nat} {db : Nat} {ab : Nat} {v : StmS} {n : Int} (hH : Has E w [R]) (h_sb : StmRd db ab R sb v) (hok : StmOk n v) :
  Calls Tryz.prog 29 #[(.pointer (some ⟨sb, 0, none⟩))] w fun e w' => e = .returned (.int .i64 (lastV v)) ∧ Has E w' [R] := by
 obtain ⟨hle1_, hle2_⟩ := hok.le
 obtain ⟨hn1_, hn2_⟩ := hok.num
 obtain ⟨hm1_, hm2_⟩ := hok.mrk
 obtain ⟨hs1_, hs2_⟩ := hok.st
 have ht_ := hok.tail
 obtain ⟨hr1_, hr2_⟩ := hok.res
 obtain ⟨hf1_, hf2_⟩ := hok.fl
 obtain ⟨hla1_, hla2_, hla3_⟩ := last_le hok
 have hfv_ : freeV n v = n * 64 - (v.tail - v.st) - v.res := rfl
 obtain ⟨x1, hc3, f2⟩ := h_sb
 have f2_n := f2.le
 refine zs (args := [(.pointer (some ⟨sb, 0, none⟩))]) Tryz.func29 rfl Tryz.ntmps29 (by simp) ?_
 refine wp_seq_k fun K4 hK4 => ?_
 refine zb ?_
 refine za (ze (v := (.int .i64 0)) rfl ?_)
 refine zf ?_
 refine zc (hK4 _ _ ?_)
 refine wp_seq_k fun K5 hK5 => ?_
 refine wp_seq_k fun K6 hK6 => ?_
 refine zb ?_
 refine za (zd (v := (.pointer (some ⟨sb, 0, none⟩))) rfl ?_)
 refine za (o_pnil (p := some _) Tryz.underlying34 rfl rfl ?_)
 refine zf ?_
 refine zc (hK6 _ _ ?_)
 refine zS rfl rfl ?_
 refine wp_skip ?_
 refine zc (hK5 _ _ ?_)
 refine wp_seq_k fun K7 hK7 => ?_
 refine wp_seq_k fun K8 hK8 => ?_
 refine zb ?_
 refine za (zd (v := (.pointer (some ⟨sb, 0, none⟩))) rfl ?_)
 refine za (zl rfl ?_)
 refine za (zg (k := 7) (fun _ => by kernel_rfl) rfl ?_)
 refine za (zj (v := x1) Tryz.underlying37 rfl rfl hH (zh 0 rfl) (CellsAt.field (k := 7) (ds := [x1]) hc3 rfl) ?_)
 refine za (zY Tryz.underlying37 rfl f2 ?_)
 refine za (ze (v := (.int .i64 ((v.l.length : Nat) : Int))) rfl ?_)
 refine zf ?_
 refine zc (hK8 _ _ ?_)
 refine wp_seq_k fun K9 hK9 => ?_
 refine zb ?_
 refine za (zd (v := (.int .i64 ((v.l.length : Nat) : Int))) rfl ?_)
 refine za (o_gtr (a := ((v.l.length : Nat) : Int)) (b := 0) rfl rfl ?_)
 refine zf ?_
 refine zc (hK9 _ _ ?_)
 refine zt rfl (fun h10 => ?_) (fun h10 => ?_)
 ·
  refine wp_seq_k fun K11 hK11 => ?_
  refine Rest.region mixed (by kernel_rfl) ?_
  have hH12 : Has E { w with drawn := w.drawn + 1 } [R] := Has0.drew hH _
  refine Rest.phaseA (fun w_ => Has E w_ [R]) 0 16 16 rfl (by decide) (by kernel_rfl) ?_
  refine zr 0 rfl (by kernel_rfl) (fun w_ h_ => zd (v := (.pointer (some ⟨sb, 0, none⟩))) rfl ⟨rfl, rfl⟩) ?_
  refine zr 1 rfl (by kernel_rfl) (fun w_ h_ => zl rfl ⟨rfl, rfl⟩) ?_
  refine zr 2 rfl (by kernel_rfl) (fun w_ h_ => zg (k := 0) (fun _ => by kernel_rfl) rfl ⟨rfl, rfl⟩) ?_
  refine zr 3 rfl (by kernel_rfl) (fun w_ h_ => zg (k := 0) (fun _ => by kernel_rfl) rfl ⟨rfl, rfl⟩) ?_
  refine zr 4 rfl (by kernel_rfl) (fun w_ h_ => zg (k := 4) (fun _ => by kernel_rfl) rfl ⟨rfl, rfl⟩) ?_
  refine zr 5 rfl (by kernel_rfl) (fun w_ h_ => zj (v := (.int .i64 v.mrk)) Tryz.underlying3 rfl rfl h_ (zh 0 rfl) (CellsAt.field (k := 4) (ds := [(.int .i64 v.mrk)]) (CellsAt.field (k := 0) (ds := [(.int .i64 v.seq), (.int .i64 v.ep), (.int .i64 v.hcut), (.int .i64 v.st), (.int .i64 v.mrk)]) (CellsAt.field (k := 0) (ds := [(.int .i64 v.seq), (.int .i64 v.ep), (.int .i64 v.hcut), (.int .i64 v.st), (.int .i64 v.mrk)]) hc3 rfl) rfl) rfl) ⟨rfl, rfl⟩) ?_
  refine zr 6 rfl (by kernel_rfl) (fun w_ h_ => zd (v := (.pointer (some ⟨sb, 0, none⟩))) rfl ⟨rfl, rfl⟩) ?_
  refine zr 7 rfl (by kernel_rfl) (fun w_ h_ => zl rfl ⟨rfl, rfl⟩) ?_
  refine zr 8 rfl (by kernel_rfl) (fun w_ h_ => zg (k := 7) (fun _ => by kernel_rfl) rfl ⟨rfl, rfl⟩) ?_
  refine zr 9 rfl (by kernel_rfl) (fun w_ h_ => zj (v := x1) Tryz.underlying37 rfl rfl h_ (zh 0 rfl) (CellsAt.field (k := 7) (ds := [x1]) hc3 rfl) ⟨rfl, rfl⟩) ?_
  refine zr 10 rfl (by kernel_rfl) (fun w_ h_ => zd (v := (.int .i64 ((v.l.length : Nat) : Int))) rfl ⟨rfl, rfl⟩) ?_
  refine zr 11 rfl (by kernel_rfl) (fun w_ h_ => o_sub (a := ((v.l.length : Nat) : Int)) (b := 1) rfl rfl (w64 (by omega) (by omega)) ⟨rfl, rfl⟩) ?_
  obtain ⟨x16, hx17⟩ : ∃ x_, v.l[(((v.l.length : Nat) : Int) - 1).toNat]? = some x_ := zM (by omega)
  obtain ⟨b13, o14, hc15, ho18⟩ := ix_exF enC_len Tryz.underlying37 ti42 f2 (by omega) hx17
  refine zr 12 rfl (by kernel_rfl) (fun w_ h_ => ho18 rfl rfl ⟨rfl, rfl⟩) ?_
  refine zr 13 rfl (by kernel_rfl) (fun w_ h_ => zg (k := o14) (fun _ => by kernel_rfl) rfl ⟨rfl, rfl⟩) ?_
  refine zr 14 rfl (by kernel_rfl) (fun w_ h_ => zj (v := (.int .i64 x16.gsn)) Tryz.underlying3 rfl rfl h_ (zh 0 rfl) (CellsAt.field (k := 0) (ds := [(.int .i64 x16.gsn)]) hc15 rfl) ⟨rfl, rfl⟩) ?_
  refine a_w 15 rfl (by kernel_rfl) hH12 (zu (ps := #[(0, (.int .i64 x16.gsn))]) (cells := #[(.int .i64 x16.gsn)]) Tryz.underlying47 ti3 (by decide) (parts1 rfl) (by kernel_rfl) hH12 fun b19 w20 hH21 => ?_)
  have hH22 : Has E w20 [R] := (hH21.front 1 rfl).first 1 rfl
  refine zQ (by kernel_rfl) hH22 ?_
  refine zP 16 rfl (by kernel_rfl) (zk (vs := #[(.int .i64 v.mrk), (.slice (some ⟨b19, 0, none⟩) 1 1)]) ca117 rfl (zI rfl rfl) (most_c hH21.all (l := [x16.gsn]) v.mrk ((zW (f := iV) (l := [x16.gsn]) rfl rfl (by simp)).mono (zh 0 rfl))) ?_)
  rintro _ w25 ⟨rfl, hX23⟩
  refine ⟨_, rfl, ?_⟩
  have hH24 := hX23.of_all
  refine zP 17 rfl (by kernel_rfl) (ze (v := (.int .i64 ([x16.gsn].foldl max v.mrk))) rfl ?_)
  refine Rest.done (by kernel_rfl) ?_
  refine zc (hK11 _ _ ?_)
  refine wp_ret ?_
  refine zv (zq Tryz.results29  (v := (.int .i64 ([x16.gsn].foldl max v.mrk))) rfl ?_)
  have q26 : (lastV v) = [x16.gsn].foldl max v.mrk := by rw [last_some (show v.l[v.l.length - 1]? = some _ from by rw [show v.l.length - 1 = ((v.l.length : Int) - 1).toNat by omega]; exact hx17)]; rfl
  have hH27 : Has E w25 [R] := (hH24.front 1 rfl).first 1 rfl
  exact ⟨by rw [q26], hH27⟩
 ·
  refine wp_skip ?_
  refine zc (hK7 _ _ ?_)
  refine wp_seq_k fun K28 hK28 => ?_
  refine zb ?_
  refine za (zd (v := (.pointer (some ⟨sb, 0, none⟩))) rfl ?_)
  refine za (zl rfl ?_)
  refine za (zg (k := 0) (fun _ => by kernel_rfl) rfl ?_)
  refine za (zg (k := 0) (fun _ => by kernel_rfl) rfl ?_)
  refine za (zg (k := 4) (fun _ => by kernel_rfl) rfl ?_)
  refine za (zj (v := (.int .i64 v.mrk)) Tryz.underlying3 rfl rfl hH (zh 0 rfl) (CellsAt.field (k := 4) (ds := [(.int .i64 v.mrk)]) (CellsAt.field (k := 0) (ds := [(.int .i64 v.seq), (.int .i64 v.ep), (.int .i64 v.hcut), (.int .i64 v.st), (.int .i64 v.mrk)]) (CellsAt.field (k := 0) (ds := [(.int .i64 v.seq), (.int .i64 v.ep), (.int .i64 v.hcut), (.int .i64 v.st), (.int .i64 v.mrk)]) hc3 rfl) rfl) rfl) ?_)
  refine za (ze (v := (.int .i64 v.mrk)) rfl ?_)
  refine zf ?_
  refine zc (hK28 _ _ ?_)
  refine wp_ret ?_
  refine zq Tryz.results29  (v := (.int .i64 v.mrk)) rfl ?_
  have q29 : (lastV v) = v.mrk := by exact last_none (by omega)
  exact ⟨by rw [q29], hH⟩
set_option maxHeartbeats 4000000 in
theorem stail_c {E w : World} {R : List Hp} {sb : Nat} {db : Nat} {ab : Nat} {v : StmS} {n : Int} (hH : Has E w [R]) (h_sb : StmRd db ab R sb v) (hok : StmOk n v) :
  Calls Tryz.prog 18 #[(.pointer (some ⟨sb, 0, none⟩))] w fun e w' => e = .returned (.int .i64 v.tail) ∧ Has E w' [R] := by
 obtain ⟨hle1_, hle2_⟩ := hok.le
 obtain ⟨hn1_, hn2_⟩ := hok.num
 obtain ⟨hm1_, hm2_⟩ := hok.mrk
 obtain ⟨hs1_, hs2_⟩ := hok.st
 have ht_ := hok.tail
 obtain ⟨hr1_, hr2_⟩ := hok.res
 obtain ⟨hf1_, hf2_⟩ := hok.fl
 obtain ⟨hla1_, hla2_, hla3_⟩ := last_le hok
 have hfv_ : freeV n v = n * 64 - (v.tail - v.st) - v.res := rfl
 obtain ⟨x1, hc3, f2⟩ := h_sb
 have f2_n := f2.le
 refine zs (args := [(.pointer (some ⟨sb, 0, none⟩))]) Tryz.func18 rfl Tryz.ntmps18 (by simp) ?_
 refine wp_seq_k fun K4 hK4 => ?_
 refine zb ?_
 refine za (ze (v := (.int .i64 0)) rfl ?_)
 refine zf ?_
 refine zc (hK4 _ _ ?_)
 refine wp_seq_k fun K5 hK5 => ?_
 refine wp_seq_k fun K6 hK6 => ?_
 refine zb ?_
 refine za (zd (v := (.pointer (some ⟨sb, 0, none⟩))) rfl ?_)
 refine za (o_pnil (p := some _) Tryz.underlying34 rfl rfl ?_)
 refine zf ?_
 refine zc (hK6 _ _ ?_)
 refine zS rfl rfl ?_
 refine wp_skip ?_
 refine zc (hK5 _ _ ?_)
 refine wp_seq_k fun K7 hK7 => ?_
 refine zb ?_
 refine za (zd (v := (.pointer (some ⟨sb, 0, none⟩))) rfl ?_)
 refine za (zl rfl ?_)
 refine za (zg (k := 8) (fun _ => by kernel_rfl) rfl ?_)
 refine za (zj (v := (.int .i64 v.tail)) Tryz.underlying3 rfl rfl hH (zh 0 rfl) (CellsAt.field (k := 8) (ds := [(.int .i64 v.tail)]) hc3 rfl) ?_)
 refine za (ze (v := (.int .i64 v.tail)) rfl ?_)
 refine zf ?_
 refine zc (hK7 _ _ ?_)
 refine wp_ret ?_
 refine zq Tryz.results18  (v := (.int .i64 v.tail)) rfl ?_
 exact ⟨rfl, hH⟩
set_option maxHeartbeats 4000000 in
theorem sloose_c {E w : World} {R : List Hp} {sb : Nat} {db : Nat} {ab : Nat} {v : StmS} {n : Int} (hH : Has E w [R]) (h_sb : StmRd db ab R sb v) (hok : StmOk n v) :
  Calls Tryz.prog 37 #[(.pointer (some ⟨sb, 0, none⟩))] w fun e w' => e = .returned (.int .i64 ((v.l.length : Int) - v.flushed)) ∧ Has E w' [R] := by
 obtain ⟨hle1_, hle2_⟩ := hok.le
 obtain ⟨hn1_, hn2_⟩ := hok.num
 obtain ⟨hm1_, hm2_⟩ := hok.mrk
 obtain ⟨hs1_, hs2_⟩ := hok.st
 have ht_ := hok.tail
 obtain ⟨hr1_, hr2_⟩ := hok.res
 obtain ⟨hf1_, hf2_⟩ := hok.fl
 obtain ⟨hla1_, hla2_, hla3_⟩ := last_le hok
 have hfv_ : freeV n v = n * 64 - (v.tail - v.st) - v.res := rfl
 obtain ⟨x1, hc3, f2⟩ := h_sb
 have f2_n := f2.le
 refine zs (args := [(.pointer (some ⟨sb, 0, none⟩))]) Tryz.func37 rfl Tryz.ntmps37 (by simp) ?_
 refine wp_seq_k fun K4 hK4 => ?_
 refine zb ?_
 refine za (ze (v := (.int .i64 0)) rfl ?_)
 refine zf ?_
 refine zc (hK4 _ _ ?_)
 refine wp_seq_k fun K5 hK5 => ?_
 refine wp_seq_k fun K6 hK6 => ?_
 refine zb ?_
 refine za (zd (v := (.pointer (some ⟨sb, 0, none⟩))) rfl ?_)
 refine za (o_pnil (p := some _) Tryz.underlying34 rfl rfl ?_)
 refine zf ?_
 refine zc (hK6 _ _ ?_)
 refine zS rfl rfl ?_
 refine wp_skip ?_
 refine zc (hK5 _ _ ?_)
 refine wp_seq_k fun K7 hK7 => ?_
 refine Rest.region mixed (by kernel_rfl) ?_
 have hH8 : Has E { w with drawn := w.drawn + 1 } [R] := Has0.drew hH _
 refine Rest.phaseA (fun w_ => Has E w_ [R]) 0 9 9 rfl (by decide) (by kernel_rfl) ?_
 refine zr 0 rfl (by kernel_rfl) (fun w_ h_ => zd (v := (.pointer (some ⟨sb, 0, none⟩))) rfl ⟨rfl, rfl⟩) ?_
 refine zr 1 rfl (by kernel_rfl) (fun w_ h_ => zl rfl ⟨rfl, rfl⟩) ?_
 refine zr 2 rfl (by kernel_rfl) (fun w_ h_ => zg (k := 7) (fun _ => by kernel_rfl) rfl ⟨rfl, rfl⟩) ?_
 refine zr 3 rfl (by kernel_rfl) (fun w_ h_ => zj (v := x1) Tryz.underlying37 rfl rfl h_ (zh 0 rfl) (CellsAt.field (k := 7) (ds := [x1]) hc3 rfl) ⟨rfl, rfl⟩) ?_
 refine zr 4 rfl (by kernel_rfl) (fun w_ h_ => zY Tryz.underlying37 rfl f2 ⟨rfl, rfl⟩) ?_
 refine zr 5 rfl (by kernel_rfl) (fun w_ h_ => zd (v := (.pointer (some ⟨sb, 0, none⟩))) rfl ⟨rfl, rfl⟩) ?_
 refine zr 6 rfl (by kernel_rfl) (fun w_ h_ => zl rfl ⟨rfl, rfl⟩) ?_
 refine zr 7 rfl (by kernel_rfl) (fun w_ h_ => zg (k := 9) (fun _ => by kernel_rfl) rfl ⟨rfl, rfl⟩) ?_
 refine zr 8 rfl (by kernel_rfl) (fun w_ h_ => zj (v := (.int .i64 v.flushed)) Tryz.underlying3 rfl rfl h_ (zh 0 rfl) (CellsAt.field (k := 9) (ds := [(.int .i64 v.flushed)]) hc3 rfl) ⟨rfl, rfl⟩) ?_
 refine zQ (by kernel_rfl) hH8 ?_
 refine zP 9 rfl (by kernel_rfl) (o_sub (a := ((v.l.length : Nat) : Int)) (b := v.flushed) rfl rfl (w64 (by omega) (by omega)) ?_)
 refine zP 10 rfl (by kernel_rfl) (ze (v := (.int .i64 (((v.l.length : Nat) : Int) - v.flushed))) rfl ?_)
 refine Rest.done (by kernel_rfl) ?_
 refine zc (hK7 _ _ ?_)
 refine wp_ret ?_
 refine zq Tryz.results37  (v := (.int .i64 (((v.l.length : Nat) : Int) - v.flushed))) rfl ?_
 have q9 : ((v.l.length : Int) - v.flushed) = ((v.l.length : Nat) : Int) - v.flushed := by rfl
 exact ⟨by rw [q9], hH8⟩
set_option maxHeartbeats 4000000 in
theorem sfree_c {E w : World} {R : List Hp} {sb : Nat} {db : Nat} {ab : Nat} {v : StmS} {n : Int} (hH : Has E w [R]) (h_sb : StmRd db ab R sb v) (h_ab : CellsAt R ab 0 [.pointer (some ⟨db, 0, none⟩), .int .i64 2, .int .i64 n]) (hok : StmOk n v) :
  Calls Tryz.prog 38 #[(.pointer (some ⟨sb, 0, none⟩))] w fun e w' => e = .returned (.int .i64 (freeV n v)) ∧ Has E w' [R] := by
 obtain ⟨hle1_, hle2_⟩ := hok.le
 obtain ⟨hn1_, hn2_⟩ := hok.num
 obtain ⟨hm1_, hm2_⟩ := hok.mrk
 obtain ⟨hs1_, hs2_⟩ := hok.st
 have ht_ := hok.tail
 obtain ⟨hr1_, hr2_⟩ := hok.res
 obtain ⟨hf1_, hf2_⟩ := hok.fl
 obtain ⟨hla1_, hla2_, hla3_⟩ := last_le hok
 have hfv_ : freeV n v = n * 64 - (v.tail - v.st) - v.res := rfl
 obtain ⟨x1, hc3, f2⟩ := h_sb
 have f2_n := f2.le
 refine zs (args := [(.pointer (some ⟨sb, 0, none⟩))]) Tryz.func38 rfl Tryz.ntmps38 (by simp) ?_
 refine wp_seq_k fun K4 hK4 => ?_
 refine zb ?_
 refine za (ze (v := (.int .i64 0)) rfl ?_)
 refine zf ?_
 refine zc (hK4 _ _ ?_)
 refine wp_seq_k fun K5 hK5 => ?_
 refine wp_seq_k fun K6 hK6 => ?_
 refine zb ?_
 refine za (zd (v := (.pointer (some ⟨sb, 0, none⟩))) rfl ?_)
 refine za (o_pnil (p := some _) Tryz.underlying34 rfl rfl ?_)
 refine zf ?_
 refine zc (hK6 _ _ ?_)
 refine zS rfl rfl ?_
 refine wp_skip ?_
 refine zc (hK5 _ _ ?_)
 refine wp_seq_k fun K7 hK7 => ?_
 refine Rest.region mixed (by kernel_rfl) ?_
 have hH8 : Has E { w with drawn := w.drawn + 1 } [R] := Has0.drew hH _
 refine Rest.phaseA (fun w_ => Has E w_ [R]) 0 21 21 rfl (by decide) (by kernel_rfl) ?_
 refine zr 0 rfl (by kernel_rfl) (fun w_ h_ => zd (v := (.pointer (some ⟨sb, 0, none⟩))) rfl ⟨rfl, rfl⟩) ?_
 refine zr 1 rfl (by kernel_rfl) (fun w_ h_ => zl rfl ⟨rfl, rfl⟩) ?_
 refine zr 2 rfl (by kernel_rfl) (fun w_ h_ => zg (k := 6) (fun _ => by kernel_rfl) rfl ⟨rfl, rfl⟩) ?_
 refine zr 3 rfl (by kernel_rfl) (fun w_ h_ => zj (v := (.pointer (some ⟨ab, 0, none⟩))) Tryz.underlying160 rfl rfl h_ (zh 0 rfl) (CellsAt.field (k := 6) (ds := [(.pointer (some ⟨ab, 0, none⟩))]) hc3 rfl) ⟨rfl, rfl⟩) ?_
 refine zr 5 rfl (by kernel_rfl) (fun w_ h_ => zd (v := (.pointer (some ⟨sb, 0, none⟩))) rfl ⟨rfl, rfl⟩) ?_
 refine zr 6 rfl (by kernel_rfl) (fun w_ h_ => zl rfl ⟨rfl, rfl⟩) ?_
 refine zr 7 rfl (by kernel_rfl) (fun w_ h_ => zg (k := 8) (fun _ => by kernel_rfl) rfl ⟨rfl, rfl⟩) ?_
 refine zr 8 rfl (by kernel_rfl) (fun w_ h_ => zj (v := (.int .i64 v.tail)) Tryz.underlying3 rfl rfl h_ (zh 0 rfl) (CellsAt.field (k := 8) (ds := [(.int .i64 v.tail)]) hc3 rfl) ⟨rfl, rfl⟩) ?_
 refine zr 9 rfl (by kernel_rfl) (fun w_ h_ => zd (v := (.pointer (some ⟨sb, 0, none⟩))) rfl ⟨rfl, rfl⟩) ?_
 refine zr 10 rfl (by kernel_rfl) (fun w_ h_ => zl rfl ⟨rfl, rfl⟩) ?_
 refine zr 11 rfl (by kernel_rfl) (fun w_ h_ => zg (k := 0) (fun _ => by kernel_rfl) rfl ⟨rfl, rfl⟩) ?_
 refine zr 12 rfl (by kernel_rfl) (fun w_ h_ => zg (k := 0) (fun _ => by kernel_rfl) rfl ⟨rfl, rfl⟩) ?_
 refine zr 13 rfl (by kernel_rfl) (fun w_ h_ => zg (k := 3) (fun _ => by kernel_rfl) rfl ⟨rfl, rfl⟩) ?_
 refine zr 14 rfl (by kernel_rfl) (fun w_ h_ => zj (v := (.int .i64 v.st)) Tryz.underlying3 rfl rfl h_ (zh 0 rfl) (CellsAt.field (k := 3) (ds := [(.int .i64 v.st)]) (CellsAt.field (k := 0) (ds := [(.int .i64 v.seq), (.int .i64 v.ep), (.int .i64 v.hcut), (.int .i64 v.st), (.int .i64 v.mrk)]) (CellsAt.field (k := 0) (ds := [(.int .i64 v.seq), (.int .i64 v.ep), (.int .i64 v.hcut), (.int .i64 v.st), (.int .i64 v.mrk)]) hc3 rfl) rfl) rfl) ⟨rfl, rfl⟩) ?_
 refine zr 15 rfl (by kernel_rfl) (fun w_ h_ => o_sub (a := v.tail) (b := v.st) rfl rfl (w64 (by omega) (by omega)) ⟨rfl, rfl⟩) ?_
 refine zr 17 rfl (by kernel_rfl) (fun w_ h_ => zd (v := (.pointer (some ⟨sb, 0, none⟩))) rfl ⟨rfl, rfl⟩) ?_
 refine zr 18 rfl (by kernel_rfl) (fun w_ h_ => zl rfl ⟨rfl, rfl⟩) ?_
 refine zr 19 rfl (by kernel_rfl) (fun w_ h_ => zg (k := 10) (fun _ => by kernel_rfl) rfl ⟨rfl, rfl⟩) ?_
 refine zr 20 rfl (by kernel_rfl) (fun w_ h_ => zj (v := (.int .i64 v.res)) Tryz.underlying3 rfl rfl h_ (zh 0 rfl) (CellsAt.field (k := 10) (ds := [(.int .i64 v.res)]) hc3 rfl) ⟨rfl, rfl⟩) ?_
 refine a_w 4 rfl (by kernel_rfl) hH8 (zk (vs := #[(.pointer (some ⟨ab, 0, none⟩))]) ca99 rfl (zF rfl) (alenr_c hH8.all (db := db) (fr := 2) (n := n) (h_ab.mono (zh 0 rfl)) ⟨by omega, by omega⟩) ?_)
 rintro _ w11 ⟨rfl, hX9⟩
 refine ⟨_, rfl, ?_⟩
 have hH10 := hX9.of_all
 refine zr 16 rfl (by kernel_rfl) (fun w_ h_ => o_sub (a := n * 64) (b := v.tail - v.st) rfl rfl (w64 (by omega) (by omega)) ⟨rfl, rfl⟩) ?_
 refine zQ (by kernel_rfl) hH10 ?_
 refine zP 21 rfl (by kernel_rfl) (o_sub (a := (n * 64) - (v.tail - v.st)) (b := v.res) rfl rfl (w64 (by omega) (by omega)) ?_)
 refine zP 22 rfl (by kernel_rfl) (ze (v := (.int .i64 (((n * 64) - (v.tail - v.st)) - v.res))) rfl ?_)
 refine Rest.done (by kernel_rfl) ?_
 refine zc (hK7 _ _ ?_)
 refine wp_ret ?_
 refine zq Tryz.results38  (v := (.int .i64 (((n * 64) - (v.tail - v.st)) - v.res))) rfl ?_
 have q12 : (freeV n v) = ((n * 64) - (v.tail - v.st)) - v.res := by rfl
 exact ⟨by rw [q12], hH10⟩
set_option maxHeartbeats 4000000 in
theorem smay_c {E w : World} {R : List Hp} {sb : Nat} {db : Nat} {ab : Nat} {v : StmS} {g : Int} {size : Int} {n : Int} (hH : Has E w [R]) (h_sb : StmRd db ab R sb v) (hok : StmOk n v) :
  Calls Tryz.prog 119 #[(.pointer (some ⟨sb, 0, none⟩)), (.int .i64 g), (.int .i64 size)] w fun e w' => e = .returned (.int .i64 (mayL v g size)) ∧ Has E w' [R] := by
 obtain ⟨hle1_, hle2_⟩ := hok.le
 obtain ⟨hn1_, hn2_⟩ := hok.num
 obtain ⟨hm1_, hm2_⟩ := hok.mrk
 obtain ⟨hs1_, hs2_⟩ := hok.st
 have ht_ := hok.tail
 obtain ⟨hr1_, hr2_⟩ := hok.res
 obtain ⟨hf1_, hf2_⟩ := hok.fl
 obtain ⟨hla1_, hla2_, hla3_⟩ := last_le hok
 have hfv_ : freeV n v = n * 64 - (v.tail - v.st) - v.res := rfl
 obtain ⟨x1, hc3, f2⟩ := h_sb
 have f2_n := f2.le
 refine zs (args := [(.pointer (some ⟨sb, 0, none⟩)), (.int .i64 g), (.int .i64 size)]) Tryz.func119 rfl Tryz.ntmps119 (by simp) ?_
 refine wp_seq_k fun K4 hK4 => ?_
 refine zb ?_
 refine za (ze (v := (.int .i64 0)) rfl ?_)
 refine zf ?_
 refine zc (hK4 _ _ ?_)
 refine wp_seq_k fun K5 hK5 => ?_
 refine wp_seq_k fun K6 hK6 => ?_
 refine zb ?_
 refine za (zd (v := (.pointer (some ⟨sb, 0, none⟩))) rfl ?_)
 refine za (zk (vs := #[(.pointer (some ⟨sb, 0, none⟩))]) ca106 rfl (zF rfl) (sready_c (v := v) (db := db) (ab := ab) hH.all ((StmRd.mk hc3 f2).mono (zh 0 rfl))) ?_)
 rintro _ w9 ⟨rfl, hX7⟩
 refine ⟨_, rfl, ?_⟩
 have hH8 := hX7.of_all
 refine za (ze (v := (.int .i64 (readyE v))) rfl ?_)
 refine zf ?_
 refine zc (hK6 _ _ ?_)
 refine wp_seq_k fun K10 hK10 => ?_
 refine zb ?_
 refine za (zd (v := (.int .i64 (readyE v))) rfl ?_)
 refine za (o_neq (a := (readyE v)) (b := 0) rfl rfl ?_)
 refine zf ?_
 refine zc (hK10 _ _ ?_)
 refine zt rfl (fun h11 => ?_) (fun h11 => ?_)
 ·
  refine wp_seq_k fun K12 hK12 => ?_
  refine zb ?_
  refine za (zd (v := (.int .i64 (readyE v))) rfl ?_)
  refine za (ze (v := (.int .i64 (readyE v))) rfl ?_)
  refine zf ?_
  refine zc (hK12 _ _ ?_)
  refine wp_ret ?_
  refine zv (zq Tryz.results119  (v := (.int .i64 (readyE v))) rfl ?_)
  have q13 : (mayL v g size) = (readyE v) := by unfold mayL; rw [if_pos h11]
  exact ⟨by rw [q13], hH8⟩
 ·
  refine wp_skip ?_
  refine zc (hK5 _ _ ?_)
  refine wp_seq_k fun K14 hK14 => ?_
  refine wp_seq_k fun K15 hK15 => ?_
  refine zb ?_
  refine za (zd (v := (.int .i64 g)) rfl ?_)
  refine za (zd (v := (.pointer (some ⟨sb, 0, none⟩))) rfl ?_)
  refine za (zk (vs := #[(.pointer (some ⟨sb, 0, none⟩))]) ca29 rfl (zF rfl) (slast_c (v := v) (db := db) (ab := ab) (n := n) hH8.all ((StmRd.mk hc3 f2).mono (zh 0 rfl)) hok) ?_)
  rintro _ w18 ⟨rfl, hX16⟩
  refine ⟨_, rfl, ?_⟩
  have hH17 := hX16.of_all
  refine za (o_leq (a := g) (b := (lastV v)) rfl rfl ?_)
  refine za (zd (v := (.bool (decide (g ≤ (lastV v))))) rfl ?_)
  by_cases h19 : g ≤ (lastV v)
  ·
   refine zi (b' := true) 17 rfl (cT h19) rfl ?_
   refine zi (b' := true) 17 rfl (cT h19) rfl ?_
   refine za (zo (u := (.bool true)) ((rfl : _ = _).trans (cT h19)) rfl ?_)
   refine za (zd (v := (.bool true)) rfl ?_)
   refine zi (b' := true) 21 rfl rfl rfl ?_
   refine zi (b' := true) 21 rfl rfl rfl ?_
   refine za (zo (u := (.bool true)) rfl rfl ?_)
   refine zf ?_
   refine zc (hK15 _ _ ?_)
   refine zN rfl rfl ?_
   refine wp_seq_k fun K20 hK20 => ?_
   refine zb ?_
   refine za (ze (v := (.int .i64 1)) rfl ?_)
   refine zf ?_
   refine zc (hK20 _ _ ?_)
   refine wp_ret ?_
   refine zv (zq Tryz.results119  (v := (.int .i64 1)) rfl ?_)
   have q21 : (mayL v g size) = 1 := by unfold mayL; rw [if_neg h11]; first | (rw [if_pos (by omega)]; done) | (rw [if_neg (by omega)]; done)
   exact ⟨by rw [q21], hH17⟩
  ·
   refine zn 17 rfl (cF h19) (zd (v := (.int .i64 g)) rfl ?_)
   refine zn 17 rfl (cF h19) (o_gtr (a := g) (b := 4611686018427387903) rfl rfl ?_)
   refine za (zm (u := (.bool (decide (4611686018427387903 < g)))) ((rfl : _ = _).trans (cF h19)) rfl ?_)
   refine za (zd (v := (.bool (decide (4611686018427387903 < g)))) rfl ?_)
   by_cases h22 : 4611686018427387903 < g
   ·
    refine zi (b' := true) 21 rfl (cT h22) rfl ?_
    refine zi (b' := true) 21 rfl (cT h22) rfl ?_
    refine za (zo (u := (.bool true)) ((rfl : _ = _).trans (cT h22)) rfl ?_)
    refine zf ?_
    refine zc (hK15 _ _ ?_)
    refine zN rfl rfl ?_
    refine wp_seq_k fun K23 hK23 => ?_
    refine zb ?_
    refine za (ze (v := (.int .i64 1)) rfl ?_)
    refine zf ?_
    refine zc (hK23 _ _ ?_)
    refine wp_ret ?_
    refine zv (zq Tryz.results119  (v := (.int .i64 1)) rfl ?_)
    have q24 : (mayL v g size) = 1 := by unfold mayL; rw [if_neg h11]; first | (rw [if_pos (by omega)]; done) | (rw [if_neg (by omega)]; done)
    exact ⟨by rw [q24], hH17⟩
   ·
    refine zn 21 rfl (cF h22) (zd (v := (.int .i64 size)) rfl ?_)
    refine zn 21 rfl (cF h22) (o_gtr (a := size) (b := 200) rfl rfl ?_)
    refine za (zm (u := (.bool (decide (200 < size)))) ((rfl : _ = _).trans (cF h22)) rfl ?_)
    refine zf ?_
    refine zc (hK15 _ _ ?_)
    refine zt rfl (fun h25 => ?_) (fun h25 => ?_)
    ·
     refine wp_seq_k fun K26 hK26 => ?_
     refine zb ?_
     refine za (ze (v := (.int .i64 1)) rfl ?_)
     refine zf ?_
     refine zc (hK26 _ _ ?_)
     refine wp_ret ?_
     refine zv (zq Tryz.results119  (v := (.int .i64 1)) rfl ?_)
     have q27 : (mayL v g size) = 1 := by unfold mayL; rw [if_neg h11]; first | (rw [if_pos (by omega)]; done) | (rw [if_neg (by omega)]; done)
     exact ⟨by rw [q27], hH17⟩
    ·
     refine wp_skip ?_
     refine zc (hK14 _ _ ?_)
     refine wp_seq_k fun K28 hK28 => ?_
     refine zb ?_
     refine za (ze (v := (.int .i64 0)) rfl ?_)
     refine zf ?_
     refine zc (hK28 _ _ ?_)
     refine wp_ret ?_
     refine zq Tryz.results119  (v := (.int .i64 0)) rfl ?_
     have q29 : (mayL v g size) = 0 := by unfold mayL; rw [if_neg h11]; first | (rw [if_pos (by omega)]; done) | (rw [if_neg (by omega)]; done)
     exact ⟨by rw [q29], hH17⟩
end Go.Q
namespace Go.Q
open Go.Proofs
set_option linter.unusedVariables false
set_option maxRecDepth 100000
attribute [local irreducible] wpList OK Code.wp
set_option maxHeartbeats 4000000 in
theorem inan_c {E w : World} {R : List Hp} {a : Int}  (hH : Has E w [R]) :
  Calls Tryz.prog 217 #[(.int .i64 a)] w fun e w' => e = .returned (.bool false) ∧ Has E w' [R] := by
 refine zs (args := [(.int .i64 a)]) Tryz.func217 rfl Tryz.ntmps217 (by simp) ?_
 refine wp_seq_k fun K1 hK1 => ?_
 refine zb ?_
 refine za (ze (v := (.bool false)) rfl ?_)
 refine zf ?_
 refine zc (hK1 _ _ ?_)
 refine wp_seq_k fun K2 hK2 => ?_
 refine zb ?_
 refine za (zd (v := (.int .i64 a)) rfl ?_)
 refine za (zd (v := (.int .i64 a)) rfl ?_)
 refine za (o_neq (a := a) (b := a) rfl rfl ?_)
 refine za (ze (v := (.bool (decide (a ≠ a)))) rfl ?_)
 refine zf ?_
 refine zc (hK2 _ _ ?_)
 refine wp_ret ?_
 refine zq Tryz.results217  (v := (.bool (decide (a ≠ a)))) rfl ?_
 have q3 : decide (a ≠ a) = false := by simp
 exact ⟨by rw [q3], hH⟩
set_option maxHeartbeats 4000000 in
theorem icmp_c {E w : World} {R : List Hp} {a : Int} {b : Int}  (hH : Has E w [R]) :
  Calls Tryz.prog 133 #[(.int .i64 a), (.int .i64 b)] w fun e w' => e = .returned (.int .i64 (cmpI a b)) ∧ Has E w' [R] := by
 refine zs (args := [(.int .i64 a), (.int .i64 b)]) Tryz.func133 rfl Tryz.ntmps133 (by simp) ?_
 refine wp_seq_k fun K1 hK1 => ?_
 refine zb ?_
 refine za (ze (v := (.int .i64 0)) rfl ?_)
 refine zf ?_
 refine zc (hK1 _ _ ?_)
 refine wp_seq_k fun K2 hK2 => ?_
 refine zb ?_
 refine za (zd (v := (.int .i64 a)) rfl ?_)
 refine za (zk (vs := #[(.int .i64 a)]) ca217 rfl (zF rfl) (inan_c (a := a) hH.all ) ?_)
 rintro _ w5 ⟨rfl, hX3⟩
 refine ⟨_, rfl, ?_⟩
 have hH4 := hX3.of_all
 refine za (ze (v := (.bool false)) rfl ?_)
 refine zf ?_
 refine zc (hK2 _ _ ?_)
 refine wp_seq_k fun K6 hK6 => ?_
 refine zb ?_
 refine za (zd (v := (.int .i64 b)) rfl ?_)
 refine za (zk (vs := #[(.int .i64 b)]) ca217 rfl (zF rfl) (inan_c (a := b) hH4.all ) ?_)
 rintro _ w9 ⟨rfl, hX7⟩
 refine ⟨_, rfl, ?_⟩
 have hH8 := hX7.of_all
 refine za (ze (v := (.bool false)) rfl ?_)
 refine zf ?_
 refine zc (hK6 _ _ ?_)
 refine wp_seq_k fun K10 hK10 => ?_
 refine wp_seq_k fun K11 hK11 => ?_
 refine zb ?_
 refine za (zd (v := (.bool false)) rfl ?_)
 refine zf ?_
 refine zc (hK11 _ _ ?_)
 refine zS rfl rfl ?_
 refine wp_skip ?_
 refine zc (hK10 _ _ ?_)
 refine wp_seq_k fun K12 hK12 => ?_
 refine wp_seq_k fun K13 hK13 => ?_
 refine zb ?_
 refine za (zd (v := (.bool false)) rfl ?_)
 refine zf ?_
 refine zc (hK13 _ _ ?_)
 refine zS rfl rfl ?_
 refine wp_skip ?_
 refine zc (hK12 _ _ ?_)
 refine wp_seq_k fun K14 hK14 => ?_
 refine wp_seq_k fun K15 hK15 => ?_
 refine zb ?_
 refine za (zd (v := (.int .i64 a)) rfl ?_)
 refine za (zd (v := (.int .i64 b)) rfl ?_)
 refine za (zL (a := a) (b := b) rfl rfl ?_)
 refine zf ?_
 refine zc (hK15 _ _ ?_)
 refine zt rfl (fun h16 => ?_) (fun h16 => ?_)
 ·
  refine wp_seq_k fun K17 hK17 => ?_
  refine zb ?_
  refine za (ze (v := (.int .i64 (-1))) rfl ?_)
  refine zf ?_
  refine zc (hK17 _ _ ?_)
  refine wp_ret ?_
  refine zv (zq Tryz.results133  (v := (.int .i64 (-1))) rfl ?_)
  have q18 : (cmpI a b) = -1 := by unfold cmpI; simp [h16]
  exact ⟨by rw [q18], hH8⟩
 ·
  refine wp_skip ?_
  refine zc (hK14 _ _ ?_)
  refine wp_seq_k fun K19 hK19 => ?_
  refine wp_seq_k fun K20 hK20 => ?_
  refine zb ?_
  refine za (zd (v := (.int .i64 a)) rfl ?_)
  refine za (zd (v := (.int .i64 b)) rfl ?_)
  refine za (o_gtr (a := a) (b := b) rfl rfl ?_)
  refine zf ?_
  refine zc (hK20 _ _ ?_)
  refine zt rfl (fun h21 => ?_) (fun h21 => ?_)
  ·
   refine wp_seq_k fun K22 hK22 => ?_
   refine zb ?_
   refine za (ze (v := (.int .i64 1)) rfl ?_)
   refine zf ?_
   refine zc (hK22 _ _ ?_)
   refine wp_ret ?_
   refine zv (zq Tryz.results133  (v := (.int .i64 1)) rfl ?_)
   have q23 : (cmpI a b) = 1 := by unfold cmpI; simp [h16, h21]
   exact ⟨by rw [q23], hH8⟩
  ·
   refine wp_skip ?_
   refine zc (hK19 _ _ ?_)
   refine wp_seq_k fun K24 hK24 => ?_
   refine zb ?_
   refine za (ze (v := (.int .i64 0)) rfl ?_)
   refine zf ?_
   refine zc (hK24 _ _ ?_)
   refine wp_ret ?_
   refine zq Tryz.results133  (v := (.int .i64 0)) rfl ?_
   have q25 : (cmpI a b) = 0 := by unfold cmpI; simp [h16, h21]
   exact ⟨by rw [q25], hH8⟩
set_option maxHeartbeats 4000000 in
theorem placef_c {E w : World} {R : List Hp} {c : LEnt} {key : Int}  (hH : Has E w [R]) :
  Calls Tryz.prog 196 #[(.agg #[(.int .i64 c.gsn), (.int .i64 c.at_), (S c.data)]), (.int .i64 key)] w fun e w' => e = .returned (.int .i64 (cmpI c.gsn key)) ∧ Has E w' [R] := by
 refine zs (args := [(.agg #[(.int .i64 c.gsn), (.int .i64 c.at_), (S c.data)]), (.int .i64 key)]) Tryz.func196 rfl Tryz.ntmps196 (by simp) ?_
 refine wp_seq_k fun K1 hK1 => ?_
 refine zb ?_
 refine za (o_box (cs := #[(.int .i64 c.gsn), (.int .i64 c.at_), (S c.data)]) rfl rfl hH fun b2 w3 hH4 => ?_)
 refine za (ze (v := (.int .i64 0)) rfl ?_)
 refine zf ?_
 refine zc (hK1 _ _ ?_)
 refine wp_seq_k fun K5 hK5 => ?_
 refine zb ?_
 refine za (zg (k := 0) (fun _ => by kernel_rfl) rfl ?_)
 refine za (zj (v := (.int .i64 c.gsn)) Tryz.underlying3 rfl rfl hH4 (zh 0 rfl) (CellsAt.one rfl) ?_)
 refine za (zd (v := (.int .i64 key)) rfl ?_)
 refine za (zk (vs := #[(.int .i64 c.gsn), (.int .i64 key)]) ca133 rfl (zI rfl rfl) (icmp_c (a := c.gsn) (b := key) hH4.all ) ?_)
 rintro _ w8 ⟨rfl, hX6⟩
 refine ⟨_, rfl, ?_⟩
 have hH7 := hX6.of_all
 refine za (ze (v := (.int .i64 (cmpI c.gsn key))) rfl ?_)
 refine zf ?_
 refine zc (hK5 _ _ ?_)
 refine wp_ret ?_
 refine zq Tryz.results196  (v := (.int .i64 (cmpI c.gsn key))) rfl ?_
 have hH9 : Has E w8 [R] := (hH7.front 1 rfl).first 1 rfl
 exact ⟨rfl, hH9⟩
set_option maxHeartbeats 4000000 in
theorem ebs_c {E w : World} {R : List Hp} {v_l : Value} {l : List LEnt} {key : Int}   (hH : Has E w [R]) (h_l : Sl R 3 v_l l.length (l.flatMap enC)) (hs : RisesE l) (hl : l.length ≤ 1000000) :
  Calls Tryz.prog 195 #[v_l, (.int .i64 key), (.func (.func 196) #[] #[])] w fun e w' => e = .returned (.tuple #[(.int .i64 (posE l key)), (.bool (hasE l key))]) ∧ Has E w' [R] := by
 have hn_ := h_l.le
 refine zs (args := [v_l, (.int .i64 key), (.func (.func 196) #[] #[])]) Tryz.func195 rfl Tryz.ntmps195 (by simp) ?_
 refine wp_seq_k fun K1 hK1 => ?_
 refine zb ?_
 refine za (ze (v := (.int .i64 0)) rfl ?_)
 refine za (ze (v := (.bool false)) rfl ?_)
 refine zf ?_
 refine zc (hK1 _ _ ?_)
 refine wp_seq_k fun K2 hK2 => ?_
 refine zb ?_
 refine za (zd (v := v_l) rfl ?_)
 refine za (zY Tryz.underlying37 rfl h_l ?_)
 refine za (ze (v := (.int .i64 ((l.length : Nat) : Int))) rfl ?_)
 refine zf ?_
 refine zc (hK2 _ _ ?_)
 refine wp_seq_k fun K3 hK3 => ?_
 refine zb ?_
 refine za (zd (v := (.int .i64 ((l.length : Nat) : Int))) rfl ?_)
 refine za (ze (v := (.int .i64 0)) rfl ?_)
 refine za (ze (v := (.int .i64 ((l.length : Nat) : Int))) rfl ?_)
 refine zf ?_
 refine zc (hK3 _ _ ?_)
 refine wp_seq_k fun K4 hK4 => ?_
 refine wp_block ?_
 let I6 : Nat → (Nat → Value) → World → Prop := fun n__ r__ w__ => ∃ (i : Int) (j : Int), n__ = (j - i).toNat ∧ Has E w__ [R] ∧ (0 ≤ i) ∧ (i ≤ j) ∧ (j ≤ (l.length : Int)) ∧ (∀ a ∈ l.take i.toNat, a.gsn < key) ∧ (∀ a ∈ l.drop j.toNat, ¬ a.gsn < key) ∧ r__ 0 = v_l ∧ r__ 1 = (.int .i64 key) ∧ r__ 2 = (.func (.func 196) #[] #[]) ∧ r__ 6 = (.int .i64 0) ∧ r__ 7 = (.bool false) ∧ r__ 8 = (.int .i64 ((l.length : Nat) : Int)) ∧ r__ 9 = (.int .i64 i) ∧ r__ 10 = (.int .i64 j)
 refine zT I6 _ ⟨0, (l.length : Int), rfl, hH, (by omega), (by omega), (by omega), (by simp), (by simp), rfl, rfl, rfl, rfl, rfl, rfl, rfl, rfl⟩ ?_
 rintro n_ r9 w7 ⟨i, j, rfl, hH8, hi0, hij, hj, hlo, hhi, e5_0, e5_1, e5_2, e5_6, e5_7, e5_8, e5_9, e5_10⟩
 refine wp_seq_k fun K10 hK10 => ?_
 refine wp_seq_k fun K11 hK11 => ?_
 refine zb ?_
 refine za (zd (v := (.int .i64 i)) e5_9 ?_)
 refine za (zd (v := (.int .i64 j)) e5_10 ?_)
 refine za (zL (a := i) (b := j) rfl rfl ?_)
 refine zf ?_
 refine zc (hK11 _ _ ?_)
 refine zt rfl (fun h12 => ?_) (fun h12 => ?_)
 ·
  refine wp_skip ?_
  refine zc (hK10 _ _ ?_)
  refine wp_block ?_
  refine wp_seq_k fun K13 hK13 => ?_
  refine zb ?_
  refine za (zd (v := (.int .i64 i)) e5_9 ?_)
  refine za (zd (v := (.int .i64 j)) e5_10 ?_)
  refine za (zH (a := i) (b := j) rfl rfl (w64 (by omega) (by omega)) ?_)
  refine za (ya (c := (i + j)) Tryz.underlying3 Tryz.underlying65 rfl (wu64 (by omega) (by omega)) ?_)
  refine za (o_shr (c := (i + j) / 2) rfl rfl (by omega) (shr_lit _ (by omega) rfl) ?_)
  refine za (ya (c := ((i + j) / 2)) Tryz.underlying65 Tryz.underlying3 rfl (w64 (by omega) (by omega)) ?_)
  refine za (ze (v := (.int .i64 ((i + j) / 2))) rfl ?_)
  refine zf ?_
  refine zc (hK13 _ _ ?_)
  refine wp_seq_k fun K14 hK14 => ?_
  refine zb ?_
  refine za (zd (v := (.func (.func 196) #[] #[])) e5_2 ?_)
  refine za (zd (v := v_l) e5_0 ?_)
  refine za (zd (v := (.int .i64 ((i + j) / 2))) rfl ?_)
  obtain ⟨x18, hx19⟩ : ∃ x_, l[((i + j) / 2).toNat]? = some x_ := zM (by omega)
  refine za (o_indexF enC_len Tryz.underlying37 ti42 rfl h_l rfl rfl (by omega) hx19 fun b15 o16 hc17 => ?_)
  refine za (zC (cs := [(.int .i64 x18.gsn), (.int .i64 x18.at_), (S x18.data)]) Tryz.underlying42 rfl ti42 rfl hH8 (zh 0 rfl) hc17 ?_)
  refine za (zd (v := (.int .i64 key)) e5_1 ?_)
  refine za (zk (vs := #[(.agg #[(.int .i64 x18.gsn), (.int .i64 x18.at_), (S x18.data)]), (.int .i64 key)]) ca196 rfl (zI rfl rfl) (placef_c (c := (LEnt.mk x18.gsn x18.at_ x18.data)) (key := key) hH8.all ) ?_)
  rintro _ w22 ⟨rfl, hX20⟩
  refine ⟨_, rfl, ?_⟩
  have hH21 := hX20.of_all
  refine za (zL (a := (cmpI (LEnt.mk x18.gsn x18.at_ x18.data).gsn key)) (b := 0) rfl rfl ?_)
  refine zf ?_
  refine zc (hK14 _ _ ?_)
  refine zt rfl (fun h23 => ?_) (fun h23 => ?_)
  ·
   refine zb ?_
   refine za (zd (v := (.int .i64 ((i + j) / 2))) rfl ?_)
   refine za (zH (a := (i + j) / 2) (b := 1) rfl rfl (w64 (by omega) (by omega)) ?_)
   refine za (ze (v := (.int .i64 (((i + j) / 2) + 1))) rfl ?_)
   refine zf ?_
   refine zG ?_
   refine zc ⟨(j - (((i + j) / 2) + 1)).toNat, _, rfl, ?_, ?_⟩
   · omega
   · exact ⟨(((i + j) / 2) + 1), j, rfl, hH21, (by omega), (by omega), (by omega), (by rw [show (((i + j) / 2) + 1).toNat = ((i + j) / 2).toNat + 1 from by omega]; exact lo_stepE hs hx19 (cmpI_neg.1 h23)), (hhi), e5_0, e5_1, e5_2, e5_6, e5_7, e5_8, rfl, e5_10⟩
  ·
   refine zb ?_
   refine za (zd (v := (.int .i64 ((i + j) / 2))) rfl ?_)
   refine za (ze (v := (.int .i64 ((i + j) / 2))) rfl ?_)
   refine zf ?_
   refine zG ?_
   refine zc ⟨(((i + j) / 2) - i).toNat, _, rfl, ?_, ?_⟩
   · omega
   · exact ⟨i, ((i + j) / 2), rfl, hH21, (by omega), (by omega), (by omega), (hlo), (hi_stepE hs hx19 (fun g_ => h23 (cmpI_neg.2 g_))), e5_0, e5_1, e5_2, e5_6, e5_7, e5_8, e5_9, rfl⟩
 ·
  refine wp_exit ?_
  refine zx (zx (x_in (?_)))
  refine zc (hK4 _ _ ?_)
  refine wp_seq_k fun K24 hK24 => ?_
  refine zb ?_
  refine za (zd (v := (.int .i64 i)) e5_9 ?_)
  refine za (zd (v := (.int .i64 i)) e5_9 ?_)
  refine za (zd (v := (.int .i64 ((l.length : Nat) : Int))) e5_8 ?_)
  refine za (zL (a := i) (b := ((l.length : Nat) : Int)) rfl rfl ?_)
  refine za (zd (v := (.bool (decide (i < ((l.length : Nat) : Int))))) rfl ?_)
  by_cases h25 : i < ((l.length : Nat) : Int)
  ·
   refine zn 39 rfl (cT h25) (zd (v := (.func (.func 196) #[] #[])) e5_2 ?_)
   refine zn 39 rfl (cT h25) (zd (v := v_l) e5_0 ?_)
   refine zn 39 rfl (cT h25) (zd (v := (.int .i64 i)) e5_9 ?_)
   obtain ⟨x29, hx30⟩ : ∃ x_, l[(i).toNat]? = some x_ := zM (by omega)
   refine zn 39 rfl (cT h25) (o_indexF enC_len Tryz.underlying37 ti42 rfl h_l rfl rfl (by omega) hx30 fun b26 o27 hc28 => ?_)
   refine zn 39 rfl (cT h25) (zC (cs := [(.int .i64 x29.gsn), (.int .i64 x29.at_), (S x29.data)]) Tryz.underlying42 rfl ti42 rfl hH8 (zh 0 rfl) hc28 ?_)
   refine zn 39 rfl (cT h25) (zd (v := (.int .i64 key)) e5_1 ?_)
   refine zn 39 rfl (cT h25) (zk (vs := #[(.agg #[(.int .i64 x29.gsn), (.int .i64 x29.at_), (S x29.data)]), (.int .i64 key)]) ca196 rfl (zI rfl rfl) (placef_c (c := (LEnt.mk x29.gsn x29.at_ x29.data)) (key := key) hH8.all ) ?_)
   rintro _ w33 ⟨rfl, hX31⟩
   refine ⟨_, rfl, ?_⟩
   have hH32 := hX31.of_all
   refine zn 39 rfl (cT h25) (yd (a := (cmpI (LEnt.mk x29.gsn x29.at_ x29.data).gsn key)) (b := 0) rfl rfl ?_)
   refine za (zo (u := (.bool (decide ((cmpI (LEnt.mk x29.gsn x29.at_ x29.data).gsn key) = 0)))) ((rfl : _ = _).trans (cT h25)) rfl ?_)
   refine za (ze (v := (.int .i64 i)) rfl ?_)
   refine za (ze (v := (.bool (decide ((cmpI (LEnt.mk x29.gsn x29.at_ x29.data).gsn key) = 0)))) rfl ?_)
   refine zf ?_
   refine zc (hK24 _ _ ?_)
   refine wp_ret ?_
   refine zV Tryz.results195  (v := (.int .i64 i)) rfl (x := (.bool (decide ((cmpI (LEnt.mk x29.gsn x29.at_ x29.data).gsn key) = 0)))) rfl ?_
   have e_ : i = j := by omega
   subst e_
   have hp_ : posE l key = i := by rw [posE_at (i := i.toNat) (by omega) hlo hhi]; omega
   have hh_ : hasE l key = decide (cmpI x29.gsn key = 0) := by (by_cases g_ : cmpI x29.gsn key = 0; rw [decide_eq_true g_]; exact hasE_yes hx30 (cmpI_zero.1 g_); rw [decide_eq_false g_]; exact hasE_no hs hlo hhi (fun a_ ha_ e_ => g_ (by rw [hx30] at ha_; cases ha_; exact cmpI_zero.2 e_)))
   exact ⟨by rw [hp_, hh_], hH32⟩
  ·
   refine zi (b' := false) 39 rfl (cF h25) rfl ?_
   refine zi (b' := false) 39 rfl (cF h25) rfl ?_
   refine zi (b' := false) 39 rfl (cF h25) rfl ?_
   refine zi (b' := false) 39 rfl (cF h25) rfl ?_
   refine zi (b' := false) 39 rfl (cF h25) rfl ?_
   refine zi (b' := false) 39 rfl (cF h25) rfl ?_
   refine zi (b' := false) 39 rfl (cF h25) rfl ?_
   refine zi (b' := false) 39 rfl (cF h25) rfl ?_
   refine za (zm (u := (.bool false)) ((rfl : _ = _).trans (cF h25)) rfl ?_)
   refine za (ze (v := (.int .i64 i)) rfl ?_)
   refine za (ze (v := (.bool false)) rfl ?_)
   refine zf ?_
   refine zc (hK24 _ _ ?_)
   refine wp_ret ?_
   refine zV Tryz.results195  (v := (.int .i64 i)) rfl (x := (.bool false)) rfl ?_
   have e_ : i = j := by omega
   subst e_
   have hp_ : posE l key = i := by rw [posE_at (i := i.toNat) (by omega) hlo hhi]; omega
   have hh_ : hasE l key = false := hasE_no hs hlo hhi (fun a_ ha_ => absurd (List.getElem?_eq_some_iff.1 ha_).1 (by omega))
   exact ⟨by rw [hp_, hh_], hH8⟩
set_option maxHeartbeats 4000000 in
theorem splace_c {E w : World} {R : List Hp} {sb : Nat} {db : Nat} {ab : Nat} {v : StmS} {g : Int} {n : Int} (hH : Has E w [R]) (h_sb : StmRd db ab R sb v) (hok : StmOk n v) :
  Calls Tryz.prog 102 #[(.pointer (some ⟨sb, 0, none⟩)), (.int .i64 g)] w fun e w' => e = .returned (.int .i64 (posE v.l g)) ∧ Has E w' [R] := by
 obtain ⟨hle1_, hle2_⟩ := hok.le
 obtain ⟨hn1_, hn2_⟩ := hok.num
 obtain ⟨hm1_, hm2_⟩ := hok.mrk
 obtain ⟨hs1_, hs2_⟩ := hok.st
 have ht_ := hok.tail
 obtain ⟨hr1_, hr2_⟩ := hok.res
 obtain ⟨hf1_, hf2_⟩ := hok.fl
 obtain ⟨hla1_, hla2_, hla3_⟩ := last_le hok
 have hfv_ : freeV n v = n * 64 - (v.tail - v.st) - v.res := rfl
 obtain ⟨x1, hc3, f2⟩ := h_sb
 have f2_n := f2.le
 refine zs (args := [(.pointer (some ⟨sb, 0, none⟩)), (.int .i64 g)]) Tryz.func102 rfl Tryz.ntmps102 (by simp) ?_
 refine wp_seq_k fun K4 hK4 => ?_
 refine zb ?_
 refine za (ze (v := (.int .i64 0)) rfl ?_)
 refine zf ?_
 refine zc (hK4 _ _ ?_)
 refine wp_seq_k fun K5 hK5 => ?_
 refine zb ?_
 refine za (zd (v := (.pointer (some ⟨sb, 0, none⟩))) rfl ?_)
 refine za (zl rfl ?_)
 refine za (zg (k := 7) (fun _ => by kernel_rfl) rfl ?_)
 refine za (zj (v := x1) Tryz.underlying37 rfl rfl hH (zh 0 rfl) (CellsAt.field (k := 7) (ds := [x1]) hc3 rfl) ?_)
 refine za (zd (v := (.int .i64 g)) rfl ?_)
 refine za (zk (vs := #[x1, (.int .i64 g), (.func (.func 196) #[] #[])]) ca195 rfl (args3 rfl rfl rfl) (ebs_c (l := v.l) (key := g) hH.all (f2.mono (zh 0 rfl)) hok.rise (by first | omega | (simp only []; omega) | (simp; done) | (simp; omega))) ?_)
 rintro _ w8 ⟨rfl, hX6⟩
 refine ⟨_, rfl, ?_⟩
 have hH7 := hX6.of_all
 have hpe_ := posE_le v.l g
 refine za (zd (v := (.tuple #[(.int .i64 (posE v.l g)), (.bool (hasE v.l g))])) rfl ?_)
 refine za (zp (v := (.int .i64 (posE v.l g))) rfl rfl ?_)
 refine za (zp (v := (.bool (hasE v.l g))) rfl rfl ?_)
 refine za (ze (v := (.int .i64 (posE v.l g))) rfl ?_)
 refine za (ze (v := (.bool (hasE v.l g))) rfl ?_)
 refine zf ?_
 refine zc (hK5 _ _ ?_)
 refine wp_seq_k fun K9 hK9 => ?_
 refine zb ?_
 refine za (zd (v := (.int .i64 (posE v.l g))) rfl ?_)
 refine za (ze (v := (.int .i64 (posE v.l g))) rfl ?_)
 refine zf ?_
 refine zc (hK9 _ _ ?_)
 refine wp_ret ?_
 refine zq Tryz.results102  (v := (.int .i64 (posE v.l g))) rfl ?_
 exact ⟨rfl, hH7⟩
end Go.Q
namespace Go.Q
open Go.Proofs
set_option linter.unusedVariables false
set_option maxRecDepth 100000
attribute [local irreducible] wpList OK Code.wp
set_option maxHeartbeats 4000000 in
theorem eclone_c_p {E w : World} {R : List Hp} (hH : Has E w [R]) {p : Option Addr} {cap : Nat} {l : List LEnt} (hv : Sl R 3 (.slice p l.length cap) l.length (l.flatMap enC)) (hl : l.length ≤ 1000000) :
  Calls Tryz.prog 101 #[(.slice p l.length cap)] w fun e w' => ∃ v' hs', e = .returned v' ∧ Own 42 3 v' l.length (l.flatMap enC) hs' ∧ Has E w' [hs', R] := by
 refine zs (args := [(.slice p l.length cap)]) Tryz.func101 rfl Tryz.ntmps101 (by simp) ?_
 refine wp_seq_k fun K1 hK1 => ?_
 refine zb ?_
 refine za (ze (v := (.slice none 0 0)) rfl ?_)
 refine zf ?_
 refine zc (hK1 _ _ ?_)
 refine wp_seq_k fun K2 hK2 => ?_
 refine wp_seq_k fun K3 hK3 => ?_
 refine zb ?_
 refine za (zd (v := (.slice p l.length cap)) rfl ?_)
 refine za (o_snil Tryz.underlying37 rfl rfl ?_)
 refine zf ?_
 refine zc (hK3 _ _ ?_)
 refine zX rfl (fun h4 => ?_) (fun h4 => ?_)
 ·
  refine wp_seq_k fun K5 hK5 => ?_
  refine zb ?_
  refine za (ze (v := (.slice none 0 0)) rfl ?_)
  refine zf ?_
  refine zc (hK5 _ _ ?_)
  refine wp_ret ?_
  refine zv (zq Tryz.results101  (v := (.slice none 0 0)) rfl ?_)
  have e0 : l = [] := List.eq_nil_of_length_eq_zero (by obtain rfl : p = none := (by simpa using h4); exact sl_nil0 hv)
  subst e0
  exact ⟨_, _, rfl, Own.nil 42 3, Has.nil hH⟩
 ·
  refine wp_skip ?_
  refine zc (hK2 _ _ ?_)
  refine wp_seq_k fun K6 hK6 => ?_
  refine zb ?_
  refine za (zu (ps := #[]) (cells := #[]) Tryz.underlying37 ti42 (by decide) (parts0) (by kernel_rfl) hH fun b7 w8 hH9 => ?_)
  refine za (zd (v := (.slice p l.length cap)) rfl ?_)
  refine za (o_append Tryz.underlying37 ti42 rfl (by decide) rfl (Own.lit (e := 42) (sz := 3) (n := 0) (b := b7) (cur := #[]) rfl (by decide)) rfl hv (hH9.front 0 rfl) (zh 0 rfl) (one_enC _) (by simp; omega) (by simp; omega) fun v10 s11 w13 ho12 hH14 => ?_)
  have ho12 : Own 42 3 v10 l.length (l.flatMap enC) s11 := Own.appF (a := []) ho12
  refine za (ze (v := v10) rfl ?_)
  refine zf ?_
  refine zc (hK6 _ _ ?_)
  refine wp_ret ?_
  refine zq Tryz.results101  (v := v10) rfl ?_
  exact ⟨_, _, rfl, by simpa using ho12, hH14⟩
theorem eclone_c {E w : World} {R : List Hp} {v_l : Value} {l : List LEnt} (hH : Has E w [R]) (h_l : Sl R 3 v_l l.length (l.flatMap enC)) (hn : l.length ≤ 1000000) :
  Calls Tryz.prog 101 #[v_l] w fun e w' => ∃ v' hs', e = .returned v' ∧ Own 42 3 v' l.length (l.flatMap enC) hs' ∧ Has E w' [hs', R] := by
 obtain ⟨p, cap, rfl⟩ := Sl.form h_l
 exact eclone_c_p hH h_l hn
set_option maxHeartbeats 4000000 in
theorem sentries_c {E w : World} {R : List Hp} {sb : Nat} {db : Nat} {ab : Nat} {v : StmS} {g : Int} {n : Int} (hH : Has E w [R]) (h_sb : StmRd db ab R sb v) (hok : StmOk n v) :
  Calls Tryz.prog 17 #[(.pointer (some ⟨sb, 0, none⟩)), (.int .i64 g)] w fun e w' => ∃ (v1' : Value) (s2' : List Hp), e = .returned v1' ∧ (Own 42 3 v1' (v.l.drop (posE v.l g).toNat).length ((v.l.drop (posE v.l g).toNat).flatMap enC) s2') ∧ Has E w' [s2', R] := by
 obtain ⟨hle1_, hle2_⟩ := hok.le
 obtain ⟨hn1_, hn2_⟩ := hok.num
 obtain ⟨hm1_, hm2_⟩ := hok.mrk
 obtain ⟨hs1_, hs2_⟩ := hok.st
 have ht_ := hok.tail
 obtain ⟨hr1_, hr2_⟩ := hok.res
 obtain ⟨hf1_, hf2_⟩ := hok.fl
 obtain ⟨hla1_, hla2_, hla3_⟩ := last_le hok
 have hfv_ : freeV n v = n * 64 - (v.tail - v.st) - v.res := rfl
 obtain ⟨x1, hc3, f2⟩ := h_sb
 have f2_n := f2.le
 refine zs (args := [(.pointer (some ⟨sb, 0, none⟩)), (.int .i64 g)]) Tryz.func17 rfl Tryz.ntmps17 (by simp) ?_
 refine wp_seq_k fun K4 hK4 => ?_
 refine zb ?_
 refine za (ze (v := (.slice none 0 0)) rfl ?_)
 refine zf ?_
 refine zc (hK4 _ _ ?_)
 refine wp_seq_k fun K5 hK5 => ?_
 refine wp_seq_k fun K6 hK6 => ?_
 refine zb ?_
 refine za (zd (v := (.pointer (some ⟨sb, 0, none⟩))) rfl ?_)
 refine za (o_pnil (p := some _) Tryz.underlying34 rfl rfl ?_)
 refine zf ?_
 refine zc (hK6 _ _ ?_)
 refine zS rfl rfl ?_
 refine wp_skip ?_
 refine zc (hK5 _ _ ?_)
 refine wp_seq_k fun K7 hK7 => ?_
 refine Rest.region mixed (by kernel_rfl) ?_
 have hH8 : Has E { w with drawn := w.drawn + 1 } [R] := Has0.drew hH _
 refine Rest.phaseA (fun w_ => Has E w_ [R]) 0 7 7 rfl (by decide) (by kernel_rfl) ?_
 refine zr 0 rfl (by kernel_rfl) (fun w_ h_ => zd (v := (.pointer (some ⟨sb, 0, none⟩))) rfl ⟨rfl, rfl⟩) ?_
 refine zr 1 rfl (by kernel_rfl) (fun w_ h_ => zl rfl ⟨rfl, rfl⟩) ?_
 refine zr 2 rfl (by kernel_rfl) (fun w_ h_ => zg (k := 7) (fun _ => by kernel_rfl) rfl ⟨rfl, rfl⟩) ?_
 refine zr 3 rfl (by kernel_rfl) (fun w_ h_ => zj (v := x1) Tryz.underlying37 rfl rfl h_ (zh 0 rfl) (CellsAt.field (k := 7) (ds := [x1]) hc3 rfl) ⟨rfl, rfl⟩) ?_
 refine zr 4 rfl (by kernel_rfl) (fun w_ h_ => zd (v := (.pointer (some ⟨sb, 0, none⟩))) rfl ⟨rfl, rfl⟩) ?_
 refine zr 5 rfl (by kernel_rfl) (fun w_ h_ => zd (v := (.int .i64 g)) rfl ⟨rfl, rfl⟩) ?_
 refine a_w 6 rfl (by kernel_rfl) hH8 (zk (vs := #[(.pointer (some ⟨sb, 0, none⟩)), (.int .i64 g)]) ca102 rfl (zI rfl rfl) (splace_c (v := v) (db := db) (ab := ab) (g := g) (n := n) hH8.all ((StmRd.mk hc3 f2).mono (zh 0 rfl)) hok) ?_)
 rintro _ w11 ⟨rfl, hX9⟩
 refine ⟨_, rfl, ?_⟩
 have hH10 := hX9.of_all
 have hpl_ := posE_le v.l g
 refine zQ (by kernel_rfl) hH10 ?_
 refine zP 7 rfl (by kernel_rfl) (o_sl_l Tryz.underlying37 ti42 rfl f2 rfl (by omega) (by omega) fun v12 hv13 => ?_)
 have hv14 := sl_dropF enC_len hv13
 refine zP 8 rfl (by kernel_rfl) (zk (vs := #[v12]) ca101 rfl (zF rfl) (eclone_c (l := v.l.drop ((posE v.l g)).toNat) hH10.all (hv14.mono (zh 0 rfl)) (by first | omega | (simp only []; omega) | (simp; done) | (simp; omega))) ?_)
 rintro _ w20 ⟨v15, s16, rfl, ho17, hX18⟩
 refine ⟨_, rfl, ?_⟩
 have hH19 : Has E w20 [s16, R] := hX18.of_all1
 refine zP 9 rfl (by kernel_rfl) (ze (v := v15) rfl ?_)
 refine Rest.done (by kernel_rfl) ?_
 refine zc (hK7 _ _ ?_)
 refine wp_ret ?_
 refine zq Tryz.results17  (v := v15) rfl ?_
 have q21 : (v.l.drop (posE v.l g).toNat) = (v.l.drop ((posE v.l g)).toNat) := by rfl
 exact ⟨_, _, rfl, (by rw [q21]; exact ho17), hH19⟩
set_option maxHeartbeats 4000000 in
theorem shead_c {E w : World} {R : List Hp} {sb : Nat} {db : Nat} {ab : Nat} {v : StmS}  (hH : Has E w [R]) (h_sb : StmRd db ab R sb v) :
  Calls Tryz.prog 19 #[(.pointer (some ⟨sb, 0, none⟩))] w fun e w' => e = .returned (.agg #[(.int .i64 v.hd.seq), (.int .i64 v.hd.ep), (.int .i64 v.hd.cut), (.int .i64 v.hd.st), (.int .i64 v.hd.mrk)]) ∧ Has E w' [R] := by
 obtain ⟨x1, hc3, f2⟩ := h_sb
 have f2_n := f2.le
 refine zs (args := [(.pointer (some ⟨sb, 0, none⟩))]) Tryz.func19 rfl Tryz.ntmps19 (by simp) ?_
 refine wp_seq_k fun K4 hK4 => ?_
 refine zb ?_
 refine za (zU (cs := #[(.int .i64 0), (.int .i64 0), (.int .i64 0), (.int .i64 0), (.int .i64 0)]) zR rfl hH fun b5 w6 hH7 => ?_)
 refine zf ?_
 refine zc (hK4 _ _ ?_)
 refine wp_seq_k fun K8 hK8 => ?_
 refine wp_seq_k fun K9 hK9 => ?_
 refine zb ?_
 refine za (zd (v := (.pointer (some ⟨sb, 0, none⟩))) rfl ?_)
 refine za (o_pnil (p := some _) Tryz.underlying34 rfl rfl ?_)
 refine zf ?_
 refine zc (hK9 _ _ ?_)
 refine zS rfl rfl ?_
 refine wp_skip ?_
 refine zc (hK8 _ _ ?_)
 refine wp_seq_k fun K10 hK10 => ?_
 refine zb ?_
 refine za (zd (v := (.pointer (some ⟨sb, 0, none⟩))) rfl ?_)
 refine za (zl rfl ?_)
 refine za (zg (k := 0) (fun _ => by kernel_rfl) rfl ?_)
 refine za (zg (k := 0) (fun _ => by kernel_rfl) rfl ?_)
 refine za (zC (cs := [(.int .i64 v.seq), (.int .i64 v.ep), (.int .i64 v.hcut), (.int .i64 v.st), (.int .i64 v.mrk)]) Tryz.underlying23 rfl zR rfl hH7 (zh 1 rfl) (CellsAt.field (k := 0) (ds := [(.int .i64 v.seq), (.int .i64 v.ep), (.int .i64 v.hcut), (.int .i64 v.st), (.int .i64 v.mrk)]) (CellsAt.field (k := 0) (ds := [(.int .i64 v.seq), (.int .i64 v.ep), (.int .i64 v.hcut), (.int .i64 v.st), (.int .i64 v.mrk)]) hc3 rfl) rfl) ?_)
 refine zB (zw (vs := [(.int .i64 v.seq), (.int .i64 v.ep), (.int .i64 v.hcut), (.int .i64 v.st), (.int .i64 v.mrk)]) (c' := #[(.int .i64 v.seq), (.int .i64 v.ep), (.int .i64 v.hcut), (.int .i64 v.st), (.int .i64 v.mrk)]) zR rfl rfl rfl rfl (by intro u hu; simp only [List.mem_cons, List.not_mem_nil, or_false] at hu; rcases hu with rfl | rfl | rfl | rfl | rfl <;> first | rfl) (by simp) (by kernel_rfl) (hH7.front 0 rfl) fun w11 hH12 => ?_)
 refine zf ?_
 refine zc (hK10 _ _ ?_)
 refine wp_ret ?_
 refine c_retC1 Tryz.results19 rfl (zy (cs := [(.int .i64 v.seq), (.int .i64 v.ep), (.int .i64 v.hcut), (.int .i64 v.st), (.int .i64 v.mrk)]) Tryz.underlying23 rfl zR hH12 (zh 0 rfl) (CellsAt.one rfl)) ?_
 have q13 : v.hd = (Hd.mk v.seq v.ep v.hcut v.st v.mrk) := by rfl
 have hH14 : Has E w11 [R] := (hH12.front 1 rfl).first 1 rfl
 exact ⟨by rw [q13], hH14⟩
end Go.Q
