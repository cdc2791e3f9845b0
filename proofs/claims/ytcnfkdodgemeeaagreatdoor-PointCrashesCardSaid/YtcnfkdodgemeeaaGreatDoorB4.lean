/-
  Parts of a walk: what functions of the program compute, each told by a theorem (QDevM, QArea, QHeadS, Qzh1, QF8, Qzh2, Qzh3, Qzh4, QY, QYS, QDevA, QAreaA, QAreaP, QzSh4, Qzh5, Qzh9, QEq).
-/
import Derived.Test.YtcnfkdodgemeeaaGreatDoorB3
import Derived.LoopN
import Derived.ChangeArms
import Derived.WideShapes
import Derived.DataElems
import Derived.SizedLaws
import Derived.Shelf.Strings.Trim
import Derived.Laws.StructEq
set_option linter.unusedVariables false
set_option linter.unusedSimpArgs false
set_option linter.unnecessarySimpa false
namespace Go.Q
-- the power
def useM (q : Pw) : Pw := if q.off = true then q else if q.armed = true ∧ q.left = 0 then ⟨true, q.armed, q.left, q.uses + 1⟩ else ⟨q.off, q.armed, q.left - 1, q.uses + 1⟩
def useMB (q : Pw) : Bool := !q.off && !(q.armed && decide (q.left = 0))
structure PR (k : Nat) (p q : Pw) : Prop where
  off : p.off = q.off
  arm : p.armed = q.armed
  uses : p.uses = q.uses
  left : p.off = false → p.armed = true → p.left = q.left
  u0 : 0 ≤ p.uses
  u1 : p.uses ≤ k
  l0 : -(k : Int) ≤ p.left
  l1 : p.left ≤ 9223372036854775807
  m0 : -(k : Int) ≤ q.left
  m1 : q.left ≤ 9223372036854775807
theorem PR.mono {k m : Nat} {p q : Pw} (h : PR k p q) (hk : k ≤ m) : PR m p q := by
  obtain ⟨h1, h2, h3, h4, h5, h6, h7, h8, h9, h10⟩ := h
  exact ⟨h1, h2, h3, h4, h5, by omega, by omega, h8, by omega, h10⟩
theorem PR.ok {k : Nat} {p q : Pw} (h : PR k p q) (hk : k ≤ 1000000) : PwOk p ∧ PwOk q := by
  obtain ⟨h1, h2, h3, h4, h5, h6, h7, h8, h9, h10⟩ := h
  exact ⟨⟨h5, by omega, by omega, h8⟩, ⟨by omega, by omega, by omega, h10⟩⟩
theorem PR.new : PR 0 (Pw.mk false false 0 0) (Pw.mk false false 0 0) := ⟨rfl, rfl, rfl, fun _ _ => rfl, by decide, by decide, by decide, by decide, by decide, by decide⟩
theorem PR.b {k : Nat} {p q : Pw} (h : PR k p q) : useB p = useMB q := by
  obtain ⟨h1, h2, h3, h4, _⟩ := h
  obtain ⟨o, a, l, u⟩ := p
  obtain ⟨o', a', l', u'⟩ := q
  simp only at h1 h2 h3 h4
  subst h1 h2 h3
  unfold useB useMB useS
  cases o with
  | true => rfl
  | false =>
    cases a with
    | false => rfl
    | true => rw [h4 rfl rfl]; rfl
theorem PR.use {k : Nat} {p q : Pw} (h : PR k p q) : PR (k + 1) (useS p) (useM q) := by
  obtain ⟨h1, h2, h3, h4, h5, h6, h7, h8, h9, h10⟩ := h
  obtain ⟨o, a, l, u⟩ := p
  obtain ⟨o', a', l', u'⟩ := q
  simp only at h1 h2 h3 h4 h5 h6 h7 h8 h9 h10
  subst h1 h2 h3
  unfold useS useM
  cases o with
  | true => exact ⟨rfl, rfl, rfl, (fun g => by cases g), h5, (by show u ≤ _; omega), (by show _ ≤ l; omega), h8, (by show _ ≤ l'; omega), h10⟩
  | false =>
    cases a with
    | false => exact ⟨rfl, rfl, rfl, (fun _ g => by cases g), (by show 0 ≤ u + 1; omega), (by show u + 1 ≤ _; omega), (by show _ ≤ l - 1; omega), (by show l - 1 ≤ _; omega), (by show _ ≤ l' - 1; omega), (by show l' - 1 ≤ _; omega)⟩
    | true =>
      have e := h4 rfl rfl
      subst e
      by_cases g : l = 0
      · subst g; exact ⟨rfl, rfl, rfl, (fun g => by simp at g), (by show 0 ≤ u + 1; omega), (by show u + 1 ≤ _; omega), (by simp; omega), (by simp), (by simp; omega), (by simp)⟩
      · simp only [g, Bool.false_eq_true, if_false, and_false, decide_false, Bool.and_false]
        exact ⟨rfl, rfl, rfl, (fun _ _ => rfl), (by show 0 ≤ u + 1; omega), (by show u + 1 ≤ _; omega), (by show _ ≤ l - 1; omega), (by show l - 1 ≤ _; omega), (by show _ ≤ l - 1; omega), (by show l - 1 ≤ _; omega)⟩
theorem PR.arm' {k : Nat} {p q : Pw} (h : PR k p q) {n : Int} (hn : n ≤ 9223372036854775807) : PR k (armS p n) ⟨q.off, true, max n 0, q.uses⟩ := by
  obtain ⟨h1, h2, h3, h4, h5, h6, h7, h8, h9, h10⟩ := h
  exact ⟨h1, rfl, h3, fun _ _ => rfl, h5, h6, (by show _ ≤ max n 0; omega), (by show max n 0 ≤ _; omega), (by show _ ≤ max n 0; omega), (by show max n 0 ≤ _; omega)⟩
theorem PR.back {k : Nat} {p q : Pw} (h : PR k p q) : PR k (backS p) ⟨false, false, q.left, q.uses⟩ := by
  obtain ⟨h1, h2, h3, h4, h5, h6, h7, h8, h9, h10⟩ := h
  exact ⟨rfl, rfl, h3, (fun _ g => by cases g), h5, h6, h7, h8, h9, h10⟩
-- the device
def nowAt (la : List Bs) (lo : List (Int × Bs)) (j : Nat) : Bs := (getB lo (j : Int)).getD ((la[j]?).getD [])
def nowS (la : List Bs) (lo : List (Int × Bs)) : List Bs := (List.range la.length).map (nowAt la lo)
theorem now_len (la : List Bs) (lo : List (Int × Bs)) : (nowS la lo).length = la.length := by simp [nowS]
theorem now_get {la : List Bs} {lo : List (Int × Bs)} {j : Nat} (hj : j < la.length) : (nowS la lo)[j]? = some (nowAt la lo j) := map_range_get _ hj
structure Sim (la : List Bs) (lo : List (Int × Bs)) (nw : List Bs) (ls : List Int) : Prop where
  ok : LoOk lo la.length
  nd : (lo.map (·.1)).Nodup
  nw : nw = nowS la lo
  ls : ls = keysS lo
theorem keys_sorted {lo : List (Int × Bs)} (h : (lo.map (·.1)).Nodup) : (keysS lo).Pairwise (· < ·) := by
  have h1 : (keysS lo).Pairwise (fun x y => decide (x ≤ y) = true) := List.pairwise_mergeSort (fun a b c => by simp; omega) (fun a b => by simp; omega) _
  have h2 : (keysS lo).Nodup := (List.mergeSort_perm _ _).nodup_iff.2 h
  exact (h1.and h2).imp fun g => by have := g.1; have := g.2; simp at *; omega
theorem Sim.len {la : List Bs} {lo : List (Int × Bs)} {nw : List Bs} {ls : List Int} (h : Sim la lo nw ls) : nw.length = la.length := by rw [h.nw, now_len]
theorem Sim.ls_le {la : List Bs} {lo : List (Int × Bs)} {nw : List Bs} {ls : List Int} (h : Sim la lo nw ls) : ls.length ≤ la.length := by
  have g := nodup_len ls ((List.range la.length).map Int.ofNat) (by rw [h.ls]; exact (List.mergeSort_perm _ _).nodup_iff.2 h.nd) fun x hx => by
    rw [h.ls, keysS_mem] at hx
    have := h.ok.get hx
    unfold inS at this
    exact List.mem_map.2 ⟨x.toNat, List.mem_range.2 (by omega), by show ((x.toNat : Nat) : Int) = _; omega⟩
  rwa [List.length_map, List.length_range] at g
theorem put_nodup {lo : List (Int × Bs)} (h : (lo.map (·.1)).Nodup) (n : Int) (t : Bs) : ((putB lo n t).map (·.1)).Nodup := by
  rw [putB_keys]
  split
  · exact h
  · rename_i g
    exact List.nodup_append.2 ⟨h, by simp, fun a ha b hb => by rw [List.mem_singleton.1 hb]; exact fun e => g (e ▸ ha)⟩
theorem del_nodup {lo : List (Int × Bs)} (h : (lo.map (·.1)).Nodup) (n : Int) : ((delB lo n).map (·.1)).Nodup := h.sublist ((delB_sub n lo).map _)
theorem keys_put {lo : List (Int × Bs)} (h : (lo.map (·.1)).Nodup) (n : Int) (t : Bs) : withS n (!true) (keysS lo) = keysS (putB lo n t) :=
  sorted_eq (with_sorted (keys_sorted h)) (keys_sorted (put_nodup h n t)) fun x => by
    rw [with_mem, keysS_mem, keysS_mem, getB_put, if_pos rfl]
    by_cases e : x = n
    · simp [e]
    · simp [e]
theorem keys_del {lo : List (Int × Bs)} (h : (lo.map (·.1)).Nodup) (n : Int) : withS n (!false) (keysS lo) = keysS (delB lo n) :=
  sorted_eq (with_sorted (keys_sorted h)) (keys_sorted (del_nodup h n)) fun x => by
    rw [with_mem, keysS_mem, keysS_mem, getB_del _ _ _ h, if_neg (by decide)]
    by_cases e : x = n
    · simp [e]
    · simp [e]
theorem now_put {la : List Bs} {lo : List (Int × Bs)} {n : Int} (t : Bs) (hn : inS n la.length) : (nowS la lo).set n.toNat t = nowS la (putB lo n t) := by
  refine List.ext_getElem? fun j => ?_
  rw [List.getElem?_set, now_len]
  obtain ⟨h0, h1⟩ := hn
  by_cases e : n.toNat = j
  · subst e
    rw [if_pos rfl, if_pos (by omega), now_get (by omega)]
    unfold nowAt; rw [getB_put, if_pos (by omega)]; rfl
  · rw [if_neg e]
    rcases Nat.lt_or_ge j la.length with hj | hj
    · rw [now_get hj, now_get hj]; unfold nowAt; rw [getB_put, if_neg (by omega)]
    · rw [List.getElem?_eq_none (by rw [now_len]; exact hj), List.getElem?_eq_none (by rw [now_len]; exact hj)]
theorem now_del {la : List Bs} {lo : List (Int × Bs)} {n : Int} (t : Bs) (hn : inS n la.length) (hd : (lo.map (·.1)).Nodup) : (nowS la lo).set n.toNat t = nowS (la.set n.toNat t) (delB lo n) := by
  refine List.ext_getElem? fun j => ?_
  rw [List.getElem?_set, now_len]
  obtain ⟨h0, h1⟩ := hn
  have hl : (la.set n.toNat t).length = la.length := List.length_set
  by_cases e : n.toNat = j
  · subst e
    rw [if_pos rfl, if_pos (by omega), now_get (by omega)]
    unfold nowAt; rw [getB_del _ _ _ hd, if_pos (by omega), List.getElem?_set, if_pos rfl, if_pos (by omega)]; rfl
  · rw [if_neg e]
    rcases Nat.lt_or_ge j la.length with hj | hj
    · rw [now_get hj, now_get (by omega)]; unfold nowAt; rw [getB_del _ _ _ hd, if_neg (by omega), List.getElem?_set, if_neg e]
    · rw [List.getElem?_eq_none (by rw [now_len]; exact hj), List.getElem?_eq_none (by rw [now_len]; omega)]
theorem now_nil (la : List Bs) : nowS la [] = la := by
  refine List.ext_getElem? fun j => ?_
  rcases Nat.lt_or_ge j la.length with hj | hj
  · rw [now_get hj]; unfold nowAt; simp [getB, hj]
  · rw [List.getElem?_eq_none (by rw [now_len]; exact hj), List.getElem?_eq_none hj]
theorem now_sync {la : List Bs} {lo : List (Int × Bs)} (h : LoOk lo la.length) : settleS lo la (keysS lo) = nowS la lo := by
  refine List.ext_getElem? fun j => ?_
  rcases Nat.lt_or_ge j la.length with hj | hj
  · rw [settle_at h.nn j _ _ hj, now_get hj]
    simp only [keysS_mem]
    unfold nowAt
    cases e : getB lo (j : Int) with
    | none => simp [hj]
    | some s => simp
  · rw [List.getElem?_eq_none (by rw [settle_len]; exact hj), List.getElem?_eq_none (by rw [now_len]; exact hj)]
section
variable {la : List Bs} {lo : List (Int × Bs)} {nw : List Bs} {ls : List Int} (h : Sim la lo nw ls) {p q : Pw} {k : Nat} {n : Int} {s : Bs}
include h
theorem Sim.write_off (hp : PR k p q) (hq : useMB q = false) : Sim la (writeS p la.length lo n s) nw ls ∧ writeE p la.length n s = 6 := by
  have hb : ¬ useB p = true := by rw [hp.b, hq]; decide
  unfold writeS writeE
  rw [if_neg (fun g => hb g.1), if_neg hb]; exact ⟨h, rfl⟩
theorem Sim.write_bad (hp : PR k p q) (hq : useMB q = true) (hc : ¬ (s.length ≤ 64 ∧ inS n la.length)) : Sim la (writeS p la.length lo n s) nw ls ∧ writeE p la.length n s = 1 := by
  have hb : useB p = true := by rw [hp.b, hq]
  unfold writeS writeE
  rw [if_neg (fun g => hc g.2), if_pos hb, if_neg hc]; exact ⟨h, rfl⟩
theorem Sim.write_ok (hp : PR k p q) (hq : useMB q = true) (hs : s.length ≤ 64) (hn : inS n la.length) : Sim la (writeS p la.length lo n s) (nw.set n.toNat (fillS s)) (withS n (!true) ls) ∧ writeE p la.length n s = 0 := by
  have hb : useB p = true := by rw [hp.b, hq]
  unfold writeS writeE
  rw [if_pos ⟨hb, hs, hn⟩, if_pos hb, if_pos ⟨hs, hn⟩]
  exact ⟨⟨h.ok.put hn (fill_len hs), put_nodup h.nd _ _, by rw [h.nw, now_put _ hn], by rw [h.ls, keys_put h.nd]⟩, rfl⟩
theorem Sim.sync_off (hp : PR k p q) (hq : useMB q = false) : Sim (syncA p la lo) (syncO p lo) nw ls ∧ syncE p = 6 ∧ syncA p la lo = la := by
  have hb : ¬ useB p = true := by rw [hp.b, hq]; decide
  unfold syncA syncO syncE
  rw [if_neg hb, if_neg hb, if_neg hb]; exact ⟨h, rfl, rfl⟩
theorem Sim.sync_on (hp : PR k p q) (hq : useMB q = true) : Sim (syncA p la lo) (syncO p lo) nw [] ∧ syncE p = 0 ∧ syncA p la lo = nw := by
  have hb : useB p = true := by rw [hp.b, hq]
  unfold syncA syncO syncE
  rw [if_pos hb, if_pos hb, if_pos hb, now_sync h.ok, ← h.nw]
  exact ⟨⟨LoOk.nil _, List.nodup_nil, (now_nil nw).symm, keys_nil.symm⟩, rfl, rfl⟩
theorem Sim.put_bad (hc : ¬ (s.length ≤ 64 ∧ inS n la.length)) : Sim (putA la n s) (putO la.length lo n s) nw ls ∧ putE la.length n s = 1 ∧ putA la n s = la := by
  unfold putA putO putE
  rw [if_neg hc, if_neg hc, if_neg hc]; exact ⟨h, rfl, rfl⟩
theorem Sim.put_ok (hs : s.length ≤ 64) (hn : inS n la.length) : Sim (putA la n s) (putO la.length lo n s) (nw.set n.toNat (fillS s)) (withS n (!false) ls) ∧ putE la.length n s = 0 ∧ putA la n s = la.set n.toNat (fillS s) := by
  unfold putA putO putE
  rw [if_pos ⟨hs, hn⟩, if_pos ⟨hs, hn⟩, if_pos ⟨hs, hn⟩]
  exact ⟨⟨by rw [List.length_set]; exact h.ok.del n, del_nodup h.nd _, by rw [h.nw, now_del _ hn h.nd], by rw [h.ls, keys_del h.nd]⟩, rfl, rfl⟩
theorem Sim.read_ok {x : Bs} (hp : PR k p q) (hq : q.off = false) (hn : inS n la.length) (hx : nw[n.toNat]? = some x) : readS p la lo n = x ∧ readE p la n = 0 := by
  unfold readS readE
  rw [hp.off, hq, if_pos hn, if_pos hn]
  refine ⟨?_, rfl⟩
  rw [h.nw, now_get (by obtain ⟨h0, h1⟩ := hn; omega)] at hx
  rw [if_neg (by decide), ← Option.some.inj hx]
  unfold nowAt
  rw [show ((n.toNat : Nat) : Int) = n from by obtain ⟨h0, h1⟩ := hn; omega]
  cases getB lo n <;> rfl
end
theorem Sim.read_off {la : List Bs} {lo : List (Int × Bs)} {nw : List Bs} {ls : List Int} {p q : Pw} {k : Nat} {n : Int} (_h : Sim la lo nw ls) (hp : PR k p q) (hq : q.off = true) : readS p la lo n = [] ∧ readE p la n = 6 := by
  unfold readS readE; rw [hp.off, hq]; exact ⟨rfl, rfl⟩
theorem Sim.read_bad {la : List Bs} {lo : List (Int × Bs)} {nw : List Bs} {ls : List Int} {p q : Pw} {k : Nat} {n : Int} (_h : Sim la lo nw ls) (hp : PR k p q) (hq : q.off = false) (hn : ¬ inS n la.length) : readS p la lo n = [] ∧ readE p la n = 1 := by
  unfold readS readE; rw [hp.off, hq, if_neg hn, if_neg hn]; exact ⟨rfl, rfl⟩
/-- what a crash leaves, up to a place -/
def crA (la nw : List Bs) (keep : List Int) (k j : Nat) : Bs := if j < k ∧ (j : Int) ∈ keep then (nw[j]?).getD [] else (la[j]?).getD []
def crN (la nw : List Bs) (keep : List Int) (k j : Nat) : Bs := if j < k then crA la nw keep k j else (nw[j]?).getD []
def crAS (la nw : List Bs) (keep : List Int) (k : Nat) : List Bs := (List.range la.length).map (crA la nw keep k)
def crNS (la nw : List Bs) (keep : List Int) (k : Nat) : List Bs := (List.range la.length).map (crN la nw keep k)
theorem cr_map {la : List Bs} : (List.range la.length).map (fun j => (la[j]?).getD []) = la := by
  refine List.ext_getElem? fun j => ?_
  rcases Nat.lt_or_ge j la.length with hj | hj
  · rw [map_range_get _ hj]; simp [hj]
  · rw [List.getElem?_eq_none (by simp; exact hj), List.getElem?_eq_none hj]
theorem crA_zero {la nw : List Bs} {keep : List Int} : crAS la nw keep 0 = la := by
  unfold crAS; rw [← cr_map (la := la)]
  simp only [List.length_map, List.length_range]
  refine List.map_congr_left fun j hj => ?_
  unfold crA; rw [if_neg (fun g => absurd g.1 (Nat.not_lt_zero _)), cr_map]
theorem crN_zero {la nw : List Bs} {keep : List Int} (h : nw.length = la.length) : crNS la nw keep 0 = nw := by
  have e : crNS la nw keep 0 = (List.range nw.length).map (fun j => (nw[j]?).getD []) := by
    unfold crNS; rw [h]
    refine List.map_congr_left fun j hj => ?_
    unfold crN; rw [if_neg (Nat.not_lt_zero _)]
  rw [e, cr_map]
theorem crA_yes {la nw : List Bs} {keep : List Int} {k : Nat} {x : Bs} (hk : k < la.length) (hm : (k : Int) ∈ keep) (hx : (crNS la nw keep k)[k]? = some x) : (crAS la nw keep k).set k x = crAS la nw keep (k + 1) := by
  unfold crNS at hx
  rw [map_range_get _ hk] at hx
  have hx := Option.some.inj hx
  unfold crN at hx; rw [if_neg (Nat.lt_irrefl _)] at hx
  refine List.ext_getElem? fun j => ?_
  have hl : (crAS la nw keep k).length = la.length := by simp [crAS]
  rw [List.getElem?_set, hl]
  by_cases e : k = j
  · subst e; rw [if_pos rfl, if_pos hk, show (crAS la nw keep (k + 1))[k]? = some (crA la nw keep (k + 1) k) from map_range_get _ hk]
    unfold crA; rw [if_pos ⟨by omega, hm⟩, hx]
  · rw [if_neg e]
    rcases Nat.lt_or_ge j la.length with hj | hj
    · rw [show (crAS la nw keep (k + 1))[j]? = some (crA la nw keep (k + 1) j) from map_range_get _ hj, show (crAS la nw keep k)[j]? = some (crA la nw keep k j) from map_range_get _ hj]
      unfold crA
      by_cases g : j < k
      · simp [g, show j < k + 1 by omega]
      · simp [g, show ¬ j < k + 1 by omega]
    · rw [List.getElem?_eq_none (by rw [hl]; exact hj), List.getElem?_eq_none (by simp [crAS]; exact hj)]
theorem crA_no {la nw : List Bs} {keep : List Int} {k : Nat} (hm : ¬ (k : Int) ∈ keep) : crAS la nw keep k = crAS la nw keep (k + 1) := by
  unfold crAS
  refine List.map_congr_left fun j hj => ?_
  unfold crA
  by_cases e : j = k
  · subst e; simp [hm]
  · by_cases g : j < k
    · simp [g, show j < k + 1 by omega]
    · simp [g, show ¬ j < k + 1 by omega]
theorem crN_step {la nw : List Bs} {keep : List Int} {k : Nat} {x : Bs} (hk : k < la.length) (hx : (crAS la nw keep (k + 1))[k]? = some x) : (crNS la nw keep k).set k x = crNS la nw keep (k + 1) := by
  rw [show (crAS la nw keep (k + 1))[k]? = some (crA la nw keep (k + 1) k) from map_range_get _ hk] at hx
  have hx := Option.some.inj hx
  refine List.ext_getElem? fun j => ?_
  have hl : (crNS la nw keep k).length = la.length := by simp [crNS]
  rw [List.getElem?_set, hl]
  by_cases e : k = j
  · subst e; rw [if_pos rfl, if_pos hk, show (crNS la nw keep (k + 1))[k]? = some (crN la nw keep (k + 1) k) from map_range_get _ hk]
    unfold crN; rw [if_pos (by omega), hx]
  · rw [if_neg e]
    rcases Nat.lt_or_ge j la.length with hj | hj
    · rw [show (crNS la nw keep (k + 1))[j]? = some (crN la nw keep (k + 1) j) from map_range_get _ hj, show (crNS la nw keep k)[j]? = some (crN la nw keep k j) from map_range_get _ hj]
      unfold crN crA
      by_cases g : j < k
      · simp [g, show j < k + 1 by omega]
      · simp [g, show ¬ j < k + 1 by omega]
    · rw [List.getElem?_eq_none (by rw [hl]; exact hj), List.getElem?_eq_none (by simp [crNS]; exact hj)]
theorem cr_len (la nw : List Bs) (keep : List Int) (k : Nat) : (crAS la nw keep k).length = la.length ∧ (crNS la nw keep k).length = la.length := by simp [crAS, crNS]
theorem Sim.crash {la : List Bs} {lo : List (Int × Bs)} {nw : List Bs} {ls : List Int} (h : Sim la lo nw ls) (keep : List Int) :
    crAS la nw keep la.length = settleS lo la keep ∧ crNS la nw keep la.length = settleS lo la keep ∧ Sim (settleS lo la keep) [] (settleS lo la keep) [] := by
  have e : crAS la nw keep la.length = settleS lo la keep := by
    refine List.ext_getElem? fun j => ?_
    rcases Nat.lt_or_ge j la.length with hj | hj
    · rw [show (crAS la nw keep la.length)[j]? = some (crA la nw keep la.length j) from map_range_get _ hj, settle_at h.ok.nn j _ _ hj]
      unfold crA
      rw [h.nw, now_get hj]
      unfold nowAt
      by_cases g : (j : Int) ∈ keep
      · cases e : getB lo (j : Int) with
        | none => simp [hj]
        | some s => simp [hj, g]
      · simp [g, hj]
    · rw [List.getElem?_eq_none (by rw [(cr_len la nw keep la.length).1]; exact hj), List.getElem?_eq_none (by rw [settle_len]; exact hj)]
  refine ⟨e, ?_, ⟨LoOk.nil _, List.nodup_nil, (now_nil _).symm, keys_nil.symm⟩⟩
  rw [← e]
  unfold crNS crAS
  refine List.map_congr_left fun j hj => ?_
  unfold crN; rw [if_pos (List.mem_range.1 hj)]
theorem Sim.new (k : Nat) : Sim (List.replicate k blankS) [] (List.replicate k blankS) [] := ⟨LoOk.nil _, List.nodup_nil, (now_nil _).symm, keys_nil.symm⟩
theorem lasts_at {la : List Bs} {n : Int} {x : Bs} (hn : inS n la.length) (hx : la[n.toNat]? = some x) : lastsS la n = x := by unfold lastsS; rw [if_pos hn, hx]; rfl
end Go.Q
namespace Go.Q
structure Pc where
  sec : Int
  frm : Int
  upto : Int
def pcC (p : Pc) : List Value := [iV p.sec, iV p.frm, iV p.upto]
theorem pcC_len (p : Pc) : (pcC p).length = 3 := rfl
theorem one_pcC (l : List Pc) : ∀ u ∈ l.flatMap pcC, u.oneCell' = true := by
  intro u hu
  obtain ⟨p, _, hp⟩ := List.mem_flatMap.1 hu
  simp only [pcC, List.mem_cons, List.not_mem_nil, or_false] at hp
  rcases hp with rfl | rfl | rfl <;> rfl
def piece1 (fr at_ size : Int) : Pc := ⟨fr + at_ / 64, at_ % 64, min (at_ % 64 + size) 64⟩
def piecesS (fr L : Int) : Nat → Int → Int → List Pc
  | 0, _, _ => []
  | f + 1, at_, size => if size ≤ 0 then [] else piece1 fr at_ size :: piecesS fr L f ((at_ + ((piece1 fr at_ size).upto - (piece1 fr at_ size).frm)) % L) (size - ((piece1 fr at_ size).upto - (piece1 fr at_ size).frm))
theorem piece1_d {fr at_ size : Int} (h0 : 0 ≤ at_) (hs : 0 < size) : 0 < (piece1 fr at_ size).upto - (piece1 fr at_ size).frm ∧ (piece1 fr at_ size).upto - (piece1 fr at_ size).frm ≤ size ∧ 0 ≤ (piece1 fr at_ size).frm ∧ (piece1 fr at_ size).frm < 64 ∧ (piece1 fr at_ size).upto ≤ 64 := by
  unfold piece1; simp only; omega
theorem pieces_fuel (fr L : Int) (hL : 0 < L) : ∀ (f g : Nat) (at_ size : Int), 0 ≤ at_ → size.toNat ≤ f → size.toNat ≤ g → piecesS fr L f at_ size = piecesS fr L g at_ size
  | 0, 0, _, _, _, _, _ => rfl
  | 0, g + 1, at_, size, _, h, _ => by rw [piecesS, piecesS, if_pos (by omega)]
  | f + 1, 0, at_, size, _, _, h => by rw [piecesS, piecesS, if_pos (by omega)]
  | f + 1, g + 1, at_, size, h0, h1, h2 => by
    rw [piecesS, piecesS]
    split
    · rfl
    · obtain ⟨d1, d2, _⟩ := piece1_d (fr := fr) h0 (size := size) (by omega)
      rw [pieces_fuel fr L hL f g _ _ (Int.emod_nonneg _ (by omega)) (by omega) (by omega)]
/-- all pieces -/
def allP (fr L at_ size : Int) : List Pc := piecesS fr L size.toNat at_ size
theorem allP_none {fr L at_ size : Int} (h : size ≤ 0) : allP fr L at_ size = [] := by
  unfold allP; rw [show size.toNat = 0 by omega]; rfl
theorem allP_step {fr L at_ size : Int} (hL : 0 < L) (h0 : 0 ≤ at_) (hs : 0 < size) : allP fr L at_ size = piece1 fr at_ size :: allP fr L ((at_ + ((piece1 fr at_ size).upto - (piece1 fr at_ size).frm)) % L) (size - ((piece1 fr at_ size).upto - (piece1 fr at_ size).frm)) := by
  unfold allP
  obtain ⟨k, hk⟩ : ∃ k, size.toNat = k + 1 := ⟨size.toNat - 1, by omega⟩
  rw [hk, piecesS, if_neg (by omega)]
  obtain ⟨d1, d2, _⟩ := piece1_d (fr := fr) h0 hs
  rw [pieces_fuel fr L hL k (size - ((piece1 fr at_ size).upto - (piece1 fr at_ size).frm)).toNat _ _ (Int.emod_nonneg _ (by omega)) (by omega) (Nat.le_refl _)]
/-- what is known of each piece -/
def PcOk (fr n : Int) (p : Pc) : Prop := fr ≤ p.sec ∧ p.sec < fr + n ∧ 0 ≤ p.frm ∧ p.frm < p.upto ∧ p.upto ≤ 64
theorem pieces_ok {fr n : Int} (hn : 0 < n) : ∀ (f : Nat) (at_ size : Int), 0 ≤ at_ → at_ < n * 64 → ∀ p ∈ piecesS fr (n * 64) f at_ size, PcOk fr n p
  | 0, _, _, _, _, p, hp => by cases hp
  | f + 1, at_, size, h0, h1, p, hp => by
    rw [piecesS] at hp
    split at hp
    · cases hp
    · rcases List.mem_cons.1 hp with rfl | hp
      · obtain ⟨d1, d2, d3, d4, d5⟩ := piece1_d (fr := fr) h0 (size := size) (by omega)
        refine ⟨?_, ?_, d3, by omega, d5⟩
        · show fr ≤ fr + at_ / 64; omega
        · show fr + at_ / 64 < fr + n; omega
      · exact pieces_ok hn f _ _ (Int.emod_nonneg _ (by omega)) (Int.emod_lt_of_pos _ (by omega)) p hp
def plen (ps : List Pc) : Int := (ps.map (fun p => p.upto - p.frm)).foldr (· + ·) 0
theorem pieces_len {fr L : Int} (hL : 0 < L) : ∀ (f : Nat) (at_ size : Int), 0 ≤ at_ → 0 ≤ size → size.toNat ≤ f → plen (piecesS fr L f at_ size) = size
  | 0, at_, size, _, h1, h2 => by show (0 : Int) = size; omega
  | f + 1, at_, size, h0, h1, h2 => by
    rw [piecesS]
    split
    · show (0 : Int) = size; omega
    · obtain ⟨d1, d2, _⟩ := piece1_d (fr := fr) h0 (size := size) (by omega)
      show ((piece1 fr at_ size).upto - (piece1 fr at_ size).frm) + plen (piecesS fr L f _ _) = size
      rw [pieces_len hL f _ _ (Int.emod_nonneg _ (by omega)) (by omega) (by omega)]; omega
theorem pieces_count {fr L : Int} : ∀ (f : Nat) (at_ size : Int), (piecesS fr L f at_ size).length ≤ f
  | 0, _, _ => Nat.le_refl _
  | f + 1, at_, size => by
    rw [piecesS]
    split
    · simp
    · simp only [List.length_cons]; have := pieces_count (fr := fr) (L := L) f ((at_ + ((piece1 fr at_ size).upto - (piece1 fr at_ size).frm)) % L) (size - ((piece1 fr at_ size).upto - (piece1 fr at_ size).frm)); omega
theorem plen_nn : ∀ {ps : List Pc}, (∀ p ∈ ps, p.frm < p.upto) → 0 ≤ plen ps
  | [], _ => Int.le_refl _
  | p :: ps, h => by
    have h1 := plen_nn fun q hq => h q (List.mem_cons_of_mem _ hq)
    have h2 := h p List.mem_cons_self
    show 0 ≤ (p.upto - p.frm) + plen ps
    omega
theorem plen_drop {ps : List Pc} {j : Nat} {x : Pc} {fr n : Int} (hk : ∀ p ∈ ps, PcOk fr n p) (hx : ps[j]? = some x) : plen (ps.drop j) = (x.upto - x.frm) + plen (ps.drop (j + 1)) ∧ 0 ≤ plen (ps.drop (j + 1)) := by
  rw [drop_of hx]
  exact ⟨rfl, plen_nn fun p hp => (hk p (List.mem_of_mem_drop hp)).2.2.2.1⟩
theorem sum2 {a b : Int} (ha : 0 ≤ a ∧ a ≤ 1000000000) (hb : 0 ≤ b ∧ b ≤ 1000000000) : sumS 0 [a, b] = a + b := by
  simp only [sumS]; rw [if_neg (by omega), if_neg (by omega)]; omega
theorem flat_take_le (l : List Bs) (i : Nat) : (l.take i).flatten.length ≤ l.flatten.length := by
  have h : (l.take i ++ l.drop i).flatten.length = l.flatten.length := by rw [List.take_append_drop]
  rw [List.flatten_append, List.length_append] at h; omega
-- what is got
def partP (x : Bs) (p : Pc) : Bs := (x.take p.upto.toNat).drop p.frm.toNat
def getP (la : List Bs) (lo : List (Int × Bs)) (ps : List Pc) : Bs := ps.flatMap fun p => partP (nowAt la lo p.sec.toNat) p
theorem getP_snoc (la : List Bs) (lo : List (Int × Bs)) (a : List Pc) (p : Pc) : getP la lo (a ++ [p]) = getP la lo a ++ partP (nowAt la lo p.sec.toNat) p := by
  unfold getP; rw [List.flatMap_append, List.flatMap_cons, List.flatMap_nil, List.append_nil]
-- what is set
def putA1 (la : List Bs) (lo : List (Int × Bs)) (p : Pc) (all : Bs) : Bs := (nowAt la lo p.sec.toNat).take p.frm.toNat ++ (all.take (p.upto - p.frm).toNat ++ (nowAt la lo p.sec.toNat).drop p.upto.toNat)
def setP (la : List Bs) : List Pc → List (Int × Bs) → Bs → List (Int × Bs)
  | [], lo, _ => lo
  | p :: ps, lo, all => setP la ps (putB lo p.sec (fillS (putA1 la lo p all))) (all.drop (p.upto - p.frm).toNat)
/-- sectors of 64 bytes -/
def Full64 (la : List Bs) : Prop := ∀ s ∈ la, s.length = 64
theorem nowAt_len {la : List Bs} {lo : List (Int × Bs)} (h : Full64 la) (ho : LoOk lo la.length) {j : Nat} (hj : j < la.length) : (nowAt la lo j).length = 64 := by
  unfold nowAt
  cases e : getB lo (j : Int) with
  | none => rw [List.getElem?_eq_getElem hj]; exact h _ (List.getElem_mem hj)
  | some s =>
    have hm : ∀ (l : List (Int × Bs)), getB l (j : Int) = some s → ∃ k, (k, s) ∈ l := by
      intro l
      induction l with
      | nil => intro h; cases h
      | cons q t ih =>
        obtain ⟨a, u⟩ := q
        intro h
        rw [getB] at h
        split at h
        · cases h; exact ⟨a, List.mem_cons_self⟩
        · obtain ⟨k, hk⟩ := ih h; exact ⟨k, List.mem_cons_of_mem _ hk⟩
    obtain ⟨k, hk⟩ := hm lo e
    exact (ho _ hk).2
theorem put1_len {la : List Bs} {lo : List (Int × Bs)} {p : Pc} {all : Bs} {fr n : Int} (hp : PcOk fr n p) (hx : (nowAt la lo p.sec.toNat).length = 64) (ha : p.upto - p.frm ≤ all.length) : (putA1 la lo p all).length = 64 := by
  obtain ⟨h1, h2, h3, h4, h5⟩ := hp
  unfold putA1
  simp only [List.length_append, List.length_take, List.length_drop, hx]; omega
theorem setP_other {la : List Bs} {j : Nat} : ∀ (ps : List Pc) (lo : List (Int × Bs)) (all : Bs), (∀ p ∈ ps, p.sec ≠ (j : Int)) → nowAt la (setP la ps lo all) j = nowAt la lo j
  | [], _, _, _ => rfl
  | p :: ps, lo, all, h => by
    rw [setP, setP_other ps _ _ fun q hq => h q (List.mem_cons_of_mem _ hq)]
    unfold nowAt
    rw [getB_put, if_neg (fun e => h p List.mem_cons_self e.symm)]
theorem getP_congr {la : List Bs} {lo lo' : List (Int × Bs)} {ps : List Pc} (h : ∀ p ∈ ps, nowAt la lo p.sec.toNat = nowAt la lo' p.sec.toNat) : getP la lo ps = getP la lo' ps := by
  unfold getP
  induction ps with
  | nil => rfl
  | cons p ps ih =>
    rw [List.flatMap_cons, List.flatMap_cons, h p List.mem_cons_self, ih fun q hq => h q (List.mem_cons_of_mem _ hq)]
theorem read_now {p : Pw} {k : Nat} (h : Calm p k) {la : List Bs} {lo : List (Int × Bs)} {n : Int} (hn : inS n la.length) : readS p la lo n = nowAt la lo n.toNat ∧ readE p la n = 0 := by
  unfold readS readE nowAt
  rw [h.off, if_pos hn, if_pos hn]
  refine ⟨?_, rfl⟩
  rw [if_neg (by decide), show ((n.toNat : Nat) : Int) = n from by obtain ⟨h0, h1⟩ := hn; omega]
  cases getB lo n <;> rfl
theorem write_now {p : Pw} {k : Nat} (h : Calm p k) {m : Nat} {lo : List (Int × Bs)} {n : Int} {s : Bs} (hn : inS n m) (hs : s.length = 64) : writeS p m lo n s = putB lo n (fillS s) ∧ writeE p m n s = 0 := by
  unfold writeS writeE
  rw [if_pos ⟨h.b, by omega, hn⟩, if_pos h.b, if_pos ⟨by omega, hn⟩]; exact ⟨rfl, rfl⟩
end Go.Q
namespace Go.Q
/-- saved it can be -/
def svOk (h : Hd) : Prop := (0 ≤ h.seq ∧ h.seq < 4611686018427387903) ∧ hdR h = true
instance (h : Hd) : Decidable (svOk h) := inferInstanceAs (Decidable (_ ∧ _))
def atOk (k : Nat) (x : Int) : Prop := 0 ≤ x ∧ x < (k : Int) - 1
instance (k : Nat) (x : Int) : Decidable (atOk k x) := inferInstanceAs (Decidable (_ ∧ _))
def hdUp (h : Hd) : Hd := ⟨h.seq + 1, h.ep, h.cut, h.st, h.mrk⟩
def svN (x : Int) (h : Hd) : Int := x + (h.seq + 1) % 2
def svTry (k : Nat) (x : Int) (h : Hd) : Prop := svOk h ∧ atOk k x
instance (k : Nat) (x : Int) (h : Hd) : Decidable (svTry k x h) := inferInstanceAs (Decidable (_ ∧ _))
def svDone (p : Pw) (k : Nat) (x : Int) (h : Hd) : Prop := svTry k x h ∧ useB p = true ∧ useB (useS p) = true
instance (p : Pw) (k : Nat) (x : Int) (h : Hd) : Decidable (svDone p k x h) := inferInstanceAs (Decidable (_ ∧ _))
/-- of a device that keeps nothing loose: its power, its sectors, what is loose, the answer -/
def svP (p : Pw) (k : Nat) (x : Int) (h : Hd) : Pw := if svTry k x h then (if useB p = true then useS (useS p) else useS p) else p
def svA (p : Pw) (la : List Bs) (x : Int) (h : Hd) : List Bs := if svDone p la.length x h then la.set (svN x h).toNat (hdL (hdUp h)) else la
def svO (p : Pw) (k : Nat) (x : Int) (h : Hd) : List (Int × Bs) := if svTry k x h ∧ useB p = true ∧ useB (useS p) = false then [(svN x h, hdL (hdUp h))] else []
def svH (p : Pw) (k : Nat) (x : Int) (h : Hd) : Hd := if svDone p k x h then hdUp h else hdZ
def svE (p : Pw) (k : Nat) (x : Int) (h : Hd) : Int := if svTry k x h then (if svDone p k x h then 0 else 6) else 1
theorem svOk.up {h : Hd} (g : svOk h) : hdR (hdUp h) = true := by
  obtain ⟨⟨h1, h2⟩, h3⟩ := g
  have h3 := of_decide_eq_true h3
  exact decide_eq_true ⟨⟨by show 0 ≤ h.seq + 1; omega, by show h.seq + 1 ≤ _; omega⟩, h3.2⟩
theorem svN_in {k : Nat} {x : Int} {h : Hd} (g : svTry k x h) : inS (svN x h) k := by
  obtain ⟨⟨⟨h1, h2⟩, _⟩, h3, h4⟩ := g
  unfold svN
  have := Int.emod_nonneg (h.seq + 1) (show (2 : Int) ≠ 0 by decide)
  have := Int.emod_lt_of_pos (h.seq + 1) (show (0 : Int) < 2 by decide)
  exact ⟨by omega, by omega⟩
theorem useB_off {p : Pw} (h : p.off = true) : useB p = false := by unfold useB; rw [h]; rfl
theorem useS_off {p : Pw} (h : p.off = true) : useS p = p := by unfold useS; rw [if_pos h]
theorem fill_full {s : Bs} (h : s.length = 64) : fillS s = s := by
  unfold fillS
  rw [h, List.drop_of_length_le (by rw [blank_len]; exact Nat.le_refl _), List.append_nil]
theorem sync_one {n : Int} {s : Bs} {la : List Bs} : settleS [(n, s)] la (keysS [(n, s)]) = la.set n.toNat s := by
  have e : keysS [(n, s)] = [n] := by unfold keysS; simp
  rw [e]
  unfold settleS
  simp [getB]
theorem crash_one {n : Int} {s : Bs} : ∀ (keep : List Int) (la : List Bs), settleS [(n, s)] la keep = if n ∈ keep then la.set n.toNat s else la
  | [], la => by simp [settleS]
  | m :: keep, la => by
    have ih := crash_one (n := n) (s := s) keep
    by_cases g : m = n
    · subst g
      have : settleS [(m, s)] la (m :: keep) = settleS [(m, s)] (la.set m.toNat s) keep := by unfold settleS; simp [getB]
      rw [this, ih, if_pos List.mem_cons_self]
      split
      · rw [List.set_set]
      · rfl
    · have : settleS [(n, s)] la (m :: keep) = settleS [(n, s)] la keep := by
        unfold settleS
        rw [List.foldl_cons]
        congr 1
        have e : getB [(n, s)] m = none := by unfold getB; rw [if_neg g]; rfl
        rw [e]
      rw [this, ih]
      have e : (n ∈ m :: keep) ↔ (n ∈ keep) := by rw [List.mem_cons]; exact ⟨fun h => h.elim (fun e => absurd e.symm g) id, .inr⟩
      simp only [e]
theorem settle_none (la : List Bs) (keep : List Int) : settleS [] la keep = la := by
  unfold settleS
  induction keep generalizing la with
  | nil => rfl
  | cons n t ih => rw [List.foldl_cons]; exact ih la
section cases
variable {p : Pw} {la : List Bs} {x : Int} {h : Hd}
theorem sv_no (g : ¬ svTry la.length x h) : svP p la.length x h = p ∧ svA p la x h = la ∧ svO p la.length x h = [] ∧ svH p la.length x h = hdZ ∧ svE p la.length x h = 1 := by
  have g2 : ¬ svDone p la.length x h := fun q => g q.1
  exact ⟨if_neg g, if_neg g2, if_neg (fun q => g q.1), if_neg g2, if_neg g⟩
theorem sv_off (g : svTry la.length x h) (ho : useB p = false) : svP p la.length x h = useS p ∧ svA p la x h = la ∧ svO p la.length x h = [] ∧ svH p la.length x h = hdZ ∧ svE p la.length x h = 6 := by
  have g2 : ¬ svDone p la.length x h := fun q => by have q1 := q.2.1; rw [ho] at q1; cases q1
  refine ⟨?_, if_neg g2, if_neg (fun q => by have q1 := q.2.1; rw [ho] at q1; cases q1), if_neg g2, ?_⟩
  · unfold svP; rw [if_pos g, if_neg (by rw [ho]; decide)]
  · unfold svE; rw [if_pos g, if_neg g2]
theorem sv_late (g : svTry la.length x h) (ho : useB p = true) (h2 : useB (useS p) = false) : svP p la.length x h = useS (useS p) ∧ svA p la x h = la ∧ svO p la.length x h = [(svN x h, hdL (hdUp h))] ∧ svH p la.length x h = hdZ ∧ svE p la.length x h = 6 := by
  have g2 : ¬ svDone p la.length x h := fun q => by have q1 := q.2.2; rw [h2] at q1; cases q1
  refine ⟨?_, if_neg g2, if_pos ⟨g, ho, h2⟩, if_neg g2, ?_⟩
  · unfold svP; rw [if_pos g, if_pos ho]
  · unfold svE; rw [if_pos g, if_neg g2]
theorem sv_done (g : svTry la.length x h) (ho : useB p = true) (h2 : useB (useS p) = true) : svP p la.length x h = useS (useS p) ∧ svA p la x h = la.set (svN x h).toNat (hdL (hdUp h)) ∧ svO p la.length x h = [] ∧ svH p la.length x h = hdUp h ∧ svE p la.length x h = 0 := by
  have g2 : svDone p la.length x h := ⟨g, ho, h2⟩
  refine ⟨?_, if_pos g2, if_neg (fun q => by have q1 := q.2.2; rw [h2] at q1; cases q1), if_pos g2, ?_⟩
  · unfold svP; rw [if_pos g, if_pos ho]
  · unfold svE; rw [if_pos g, if_pos g2]
end cases
theorem svA_len (p : Pw) (la : List Bs) (x : Int) (h : Hd) : (svA p la x h).length = la.length := by unfold svA; split <;> simp
theorem svA_64 {p : Pw} {la : List Bs} {x : Int} {h : Hd} (h64 : Full64 la) : Full64 (svA p la x h) := by
  unfold svA
  split
  · rename_i g
    intro s hs
    rcases List.mem_or_eq_of_mem_set hs with hs | rfl
    · exact h64 s hs
    · exact hdL_len g.1.1.up
  · exact h64
/-- a device's sector -/
def sec (la : List Bs) (x : Int) : Bs := (la[x.toNat]?).getD []
theorem read_sec {p : Pw} {la : List Bs} {n : Int} (hp : p.off = false) (hn : inS n la.length) : readS p la [] n = sec la n ∧ readE p la n = 0 := by
  unfold readS readE sec
  rw [hp]
  simp [hn, getB]
theorem sec_len {la : List Bs} (h : Full64 la) {n : Int} (hn : inS n la.length) : (sec la n).length = 64 := by
  unfold sec
  have : n.toNat < la.length := by have := hn.1; have := hn.2; omega
  rw [List.getElem?_eq_getElem this]
  exact h _ (List.getElem_mem this)
/-- Load, of a device that keeps nothing loose -/
def ldH (p : Pw) (la : List Bs) (x : Int) : Hd := if atOk la.length x ∧ p.off = false then (ldP (sec la x) (sec la (x + 1))).1 else hdZ
def ldE (p : Pw) (la : List Bs) (x : Int) : Int := if atOk la.length x then (if p.off = false then (ldP (sec la x) (sec la (x + 1))).2 else 6) else 1
theorem hdP_nn (s : Bs) : 0 ≤ (hdP s).1.seq ∧ (hdP s).1.seq ≤ 4611686018427387903 := by
  cases h : (hdP s).2 with
  | true => exact (of_decide_eq_true (hdP_true h).1).1
  | false => rw [hdP_false h]; exact ⟨by decide, by decide⟩
theorem hdP_laid1 {h : Hd} (hr : hdR h = true) : hdP (hdL h) = (h, true) := hdP_laid hr
/-- two sectors keep a head: the one it was laid in, and no later one in the other -/
def Kp (a b : Bs) (h : Hd) : Prop := hdR h = true ∧ if h.seq % 2 = 0 then a = hdL h ∧ ((hdP b).2 = true → (hdP b).1.seq % 2 = 1 → (hdP b).1.seq < h.seq) else b = hdL h ∧ ((hdP a).2 = true → (hdP a).1.seq % 2 = 0 → (hdP a).1.seq < h.seq)
theorem Kp.ld {a b : Bs} {h : Hd} (k : Kp a b h) : ldP a b = (h, 0) := by
  obtain ⟨hr, k⟩ := k
  unfold ldP
  split at k
  · rename_i he
    obtain ⟨rfl, k⟩ := k
    rw [hdP_laid hr]
    have e1 : ldStep 0 (hdZ, false) (h, true) = (h, true) := by unfold ldStep; rw [if_pos ⟨rfl, he, .inl rfl⟩]
    have e2 : ldStep 1 (h, true) (hdP b) = (h, true) := by
      unfold ldStep
      rw [if_neg]
      rintro ⟨g1, g2, g3 | g3⟩
      · cases g3
      · have := k g1 g2; simp only at g3; omega
    simp only [e1, e2]
    rfl
  · rename_i he
    obtain ⟨rfl, k⟩ := k
    rw [hdP_laid hr]
    have he : h.seq % 2 = 1 := by omega
    have e : ldStep 1 (ldStep 0 (hdZ, false) (hdP a)) (h, true) = (h, true) := by
      have : ldStep 0 (hdZ, false) (hdP a) = (hdZ, false) ∨ ((hdP a).2 = true ∧ (hdP a).1.seq % 2 = 0 ∧ ldStep 0 (hdZ, false) (hdP a) = ((hdP a).1, true)) := by
        unfold ldStep
        split
        · rename_i g; exact .inr ⟨g.1, g.2.1, rfl⟩
        · exact .inl rfl
      rcases this with e | ⟨g1, g2, e⟩
      · rw [e]; unfold ldStep; rw [if_pos ⟨rfl, he, .inl rfl⟩]
      · rw [e]; unfold ldStep; rw [if_pos ⟨rfl, he, .inr (k g1 g2)⟩]
    simp only [e]
    rfl
theorem Kp.even {a b : Bs} {h h' : Hd} (k : Kp a b h) (hs : h'.seq = h.seq) (hr : hdR (hdUp h') = true) (he : (h'.seq + 1) % 2 = 0) : Kp (hdL (hdUp h')) b (hdUp h') := by
  refine ⟨hr, ?_⟩
  rw [if_pos (show (hdUp h').seq % 2 = 0 from he)]
  refine ⟨rfl, fun g1 g2 => ?_⟩
  have k2 := k.2
  rw [if_neg (by omega)] at k2
  rw [k2.1, hdP_laid k.1]
  show h.seq < h'.seq + 1
  omega
theorem Kp.odd {a b : Bs} {h h' : Hd} (k : Kp a b h) (hs : h'.seq = h.seq) (hr : hdR (hdUp h') = true) (he : (h'.seq + 1) % 2 = 1) : Kp a (hdL (hdUp h')) (hdUp h') := by
  refine ⟨hr, ?_⟩
  rw [if_neg (by show ¬ (h'.seq + 1) % 2 = 0; omega)]
  refine ⟨rfl, fun g1 g2 => ?_⟩
  have k2 := k.2
  rw [if_pos (by omega)] at k2
  rw [k2.1, hdP_laid k.1]
  show h.seq < h'.seq + 1
  omega
/-- the sectors of a device -/
def KpA (la : List Bs) (x : Int) (h : Hd) : Prop := Kp (sec la x) (sec la (x + 1)) h
theorem sec_set {la : List Bs} {n m : Int} {s : Bs} (hn : inS n la.length) (hm : 0 ≤ m) : sec (la.set n.toNat s) m = if m = n then s else sec la m := by
  unfold sec
  rw [List.getElem?_set]
  have := hn.1
  have := hn.2
  by_cases e : m = n
  · rw [if_pos (by rw [e]), if_pos (by omega), if_pos e]; rfl
  · rw [if_neg (by omega), if_neg e]
theorem KpA.set {la : List Bs} {x : Int} {h h' : Hd} (k : KpA la x h) (g : svTry la.length x h') (hs : h'.seq = h.seq) : KpA (la.set (svN x h').toNat (hdL (hdUp h'))) x (hdUp h') := by
  have hn := svN_in g
  have hx := g.2.1
  have hu := g.1.up
  unfold KpA
  rw [sec_set hn hx, sec_set hn (by omega)]
  unfold svN
  by_cases he : (h'.seq + 1) % 2 = 0
  · rw [he, if_pos (by omega), if_neg (by omega)]; exact k.even hs hu he
  · have he : (h'.seq + 1) % 2 = 1 := by omega
    rw [he, if_neg (by omega), if_pos rfl]; exact k.odd hs hu he
theorem KpA.ld {p : Pw} {la : List Bs} {x : Int} {h : Hd} (k : KpA la x h) (hx : atOk la.length x) (hp : p.off = false) : ldH p la x = h ∧ ldE p la x = 0 := by
  have e := Kp.ld k
  unfold ldH ldE
  rw [if_pos ⟨hx, hp⟩, if_pos hx, if_pos hp, e]
  exact ⟨rfl, rfl⟩
/-- what is saved first, on sectors of nothing -/
def hd1 : Hd := ⟨1, 0, 0, 0, 0⟩
theorem hdL_z : hdL hdZ ≠ blankS := by decide +kernel
theorem hdP_blank : hdP blankS = (hdZ, false) := by decide +kernel
theorem blank_zero : blankB blankS = true := rfl
section ends
variable {p : Pw} {la : List Bs} {x : Int} {h : Hd}
theorem hdU_len (g : svOk h) : (hdL (hdUp h)).length = 64 := hdL_len g.up
theorem wr_e (g : svTry la.length x h) : writeE p la.length (x + (h.seq + 1) % 2) [hdL (hdUp h)].flatten = (if useB p = true then 0 else 6) ∧ writeS p la.length [] (x + (h.seq + 1) % 2) [hdL (hdUp h)].flatten = (if useB p = true then [(svN x h, hdL (hdUp h))] else []) := by
  have hl := hdU_len g.1
  have hn : inS (x + (h.seq + 1) % 2) la.length := svN_in g
  have hf : [hdL (hdUp h)].flatten = hdL (hdUp h) := by simp
  rw [hf]
  unfold writeE writeS
  rw [fill_full hl]
  by_cases hb : useB p = true
  · rw [if_pos hb, if_pos ⟨by omega, hn⟩, if_pos hb, if_pos ⟨hb, by omega, hn⟩, if_pos hb]
    exact ⟨rfl, rfl⟩
  · rw [if_neg hb, if_neg hb, if_neg (fun q => hb q.1), if_neg hb]
    exact ⟨rfl, rfl⟩
theorem sv_end1 (g : svTry la.length x h) (hE : writeE p la.length (x + (h.seq + 1) % 2) [hdL (hdUp h)].flatten ≠ 0) :
    svP p la.length x h = useS p ∧ svA p la x h = la ∧ svO p la.length x h = writeS p la.length [] (x + (h.seq + 1) % 2) [hdL (hdUp h)].flatten ∧ svH p la.length x h = hdZ ∧ svE p la.length x h = writeE p la.length (x + (h.seq + 1) % 2) [hdL (hdUp h)].flatten := by
  obtain ⟨e1, e2⟩ := wr_e (p := p) g
  rw [e1] at hE
  rw [e1, e2]
  cases hb : useB p with
  | true => rw [hb] at hE; exact absurd rfl hE
  | false => exact sv_off g hb
theorem sv_end2 (g : svTry la.length x h) (hE : writeE p la.length (x + (h.seq + 1) % 2) [hdL (hdUp h)].flatten = 0) (hS : syncE (useS p) ≠ 0) :
    svP p la.length x h = useS (useS p) ∧ svA p la x h = syncA (useS p) la (writeS p la.length [] (x + (h.seq + 1) % 2) [hdL (hdUp h)].flatten) ∧ svO p la.length x h = syncO (useS p) (writeS p la.length [] (x + (h.seq + 1) % 2) [hdL (hdUp h)].flatten) ∧ svH p la.length x h = hdZ ∧ svE p la.length x h = syncE (useS p) := by
  obtain ⟨e1, e2⟩ := wr_e (p := p) g
  rw [e1] at hE
  rw [e2]
  unfold syncE at hS
  unfold syncA syncO syncE
  cases hb : useB p with
  | false => rw [hb] at hE; exact absurd hE (by decide)
  | true =>
    cases h2 : useB (useS p) with
    | true => rw [h2] at hS; exact absurd rfl hS
    | false => exact sv_late g hb h2
theorem sv_end3 (g : svTry la.length x h) (hE : writeE p la.length (x + (h.seq + 1) % 2) [hdL (hdUp h)].flatten = 0) (hS : syncE (useS p) = 0) :
    svP p la.length x h = useS (useS p) ∧ svA p la x h = syncA (useS p) la (writeS p la.length [] (x + (h.seq + 1) % 2) [hdL (hdUp h)].flatten) ∧ svO p la.length x h = syncO (useS p) (writeS p la.length [] (x + (h.seq + 1) % 2) [hdL (hdUp h)].flatten) ∧ svH p la.length x h = hdUp h ∧ svE p la.length x h = 0 := by
  obtain ⟨e1, e2⟩ := wr_e (p := p) g
  rw [e1] at hE
  rw [e2]
  unfold syncE at hS
  unfold syncA syncO
  cases hb : useB p with
  | false => rw [hb] at hE; exact absurd hE (by decide)
  | true =>
    cases h2 : useB (useS p) with
    | false => rw [h2] at hS; exact absurd hS (by decide)
    | true => rw [if_pos rfl, if_pos rfl, if_pos rfl, sync_one]; exact sv_done g hb h2
end ends
/-- the device's own words -/
def thE (p : Pw) (k : Nat) (x : Int) : Int := if atOk k x then (if p.off = true then 6 else 0) else 1
theorem thE_arg {p : Pw} {k : Nat} {x : Int} (h : x < 0 ∨ (k : Int) - 1 ≤ x) : thE p k x = 1 := if_neg (fun g => by have := g.1; have := g.2; omega)
theorem thE_off {p : Pw} {k : Nat} {x : Int} (h1 : 0 ≤ x) (h2 : x < (k : Int) - 1) (ho : p.off = true) : thE p k x = 6 := by unfold thE; rw [if_pos (show atOk k x from ⟨h1, h2⟩), if_pos ho]
theorem thE_ok {p : Pw} {k : Nat} {x : Int} (h1 : 0 ≤ x) (h2 : x < (k : Int) - 1) (ho : p.off = false) : thE p k x = 0 := by unfold thE; rw [if_pos (show atOk k x from ⟨h1, h2⟩), ho]; rfl
theorem thE_zero {p : Pw} {k : Nat} {x : Int} (h : thE p k x = 0) : atOk k x ∧ p.off = false := by
  unfold thE at h
  split at h
  · rename_i g
    split at h
    · cases h
    · rename_i q; exact ⟨g, by simpa using q⟩
  · cases h
theorem sv_th {p : Pw} {la : List Bs} {x : Int} {h : Hd} (h1 : svOk h) (h2 : thE p la.length x ≠ 0) : svP p la.length x h = p ∧ svA p la x h = la ∧ svO p la.length x h = [] ∧ svH p la.length x h = hdZ ∧ svE p la.length x h = thE p la.length x := by
  by_cases g : atOk la.length x
  · have ho : p.off = true := by
      unfold thE at h2
      rw [if_pos g] at h2
      split at h2
      · assumption
      · exact absurd rfl h2
    have := sv_off (p := p) (la := la) (x := x) (h := h) ⟨h1, g⟩ (useB_off ho)
    rw [useS_off ho] at this
    rw [this.2.2.2.2, thE_off g.1 g.2 ho]
    exact ⟨this.1, this.2.1, this.2.2.1, this.2.2.2.1, rfl⟩
  · have := sv_no (p := p) (la := la) (x := x) (h := h) (fun q => g q.2)
    rw [this.2.2.2.2]
    refine ⟨this.1, this.2.1, this.2.2.1, this.2.2.2.1, ?_⟩
    unfold thE; rw [if_neg g]
theorem sv_bad {p : Pw} {la : List Bs} {x : Int} {h : Hd} (h1 : ¬ svOk h) : svP p la.length x h = p ∧ svA p la x h = la ∧ svO p la.length x h = [] ∧ svH p la.length x h = hdZ ∧ svE p la.length x h = 1 := sv_no (fun q => h1 q.1)
theorem ld_th {p : Pw} {la : List Bs} {x : Int} (h2 : thE p la.length x ≠ 0) : ldH p la x = hdZ ∧ ldE p la x = thE p la.length x := by
  unfold ldH ldE thE at *
  by_cases g : atOk la.length x
  · rw [if_pos g] at h2 ⊢
    cases ho : p.off with
    | true => simp [g]
    | false => rw [ho] at h2; exact absurd rfl h2
  · rw [if_neg g, if_neg (fun q => g q.1), if_neg g]; exact ⟨rfl, rfl⟩
/-- Load, round by round -/
def ldG (la : List Bs) (x : Int) : Nat → Hd × Bool
  | 0 => (hdZ, false)
  | n + 1 => ldStep (n : Int) (ldG la x n) (hdP (sec la (x + (n : Int))))
def blG (la : List Bs) (x : Int) : Nat → Bool
  | 0 => true
  | n + 1 => blG la x n && blankB (sec la (x + (n : Int)))
theorem ld_two {p : Pw} {la : List Bs} {x : Int} (g : atOk la.length x) (ho : p.off = false) : ldH p la x = (if (ldG la x 2).2 = true then (ldG la x 2).1 else hdZ) ∧ ldE p la x = if (ldG la x 2).2 = true then 0 else if blG la x 2 = true then 7 else 9 := by
  have e0 : x + ((0 : Nat) : Int) = x := by omega
  unfold ldH ldE
  rw [if_pos ⟨g, ho⟩, if_pos g, if_pos ho]
  unfold ldP
  simp only [ldG, blG, e0, Bool.true_and, Bool.and_eq_true]
  show _ ∧ _
  have e1 : x + ((1 : Nat) : Int) = x + 1 := by omega
  have c0 : ((0 : Nat) : Int) = 0 := rfl
  have c1 : ((1 : Nat) : Int) = 1 := rfl
  simp only [e1, c0, c1]
  generalize ldStep 1 (ldStep 0 (hdZ, false) (hdP (sec la x))) (hdP (sec la (x + 1))) = z
  obtain ⟨z1, z2⟩ := z
  cases z2 with
  | true => exact ⟨rfl, rfl⟩
  | false =>
    simp only [Bool.false_eq_true, if_false]
    split <;> exact ⟨rfl, rfl⟩
theorem hput {h : Hd} (hr : hdR h = true) : putS 8 [h.seq, h.ep, h.cut, h.st, h.mrk] = hdN h := by
  obtain ⟨b1, b2, b3, b4, b5⟩ := of_decide_eq_true hr
  have f : ∀ y : Int, 0 ≤ y ∧ y ≤ 4611686018427387903 → fitsS y 8 = true := fun y hy => fits_lit (b := 9223372036854775808) hy.1 (by omega) (by decide) (by decide) (by omega)
  rw [putS_yes (by decide) (by decide) (by
    intro y hy
    simp only [List.mem_cons, List.not_mem_nil, or_false] at hy
    rcases hy with rfl | rfl | rfl | rfl | rfl
    · exact f _ b1
    · exact f _ ⟨b2.1, by omega⟩
    · exact f _ b3
    · exact f _ b4
    · exact f _ b5)]
  simp [hdN, List.flatMap]
theorem hseal_len (h : Hd) : (sealS (hdN h)).length = 44 := by rw [sealS, List.length_append, hdN_len, laidS_len]
theorem hdL_yes {h : Hd} (hr : hdR h = true) : hdL h = sealS (hdN h) ++ List.replicate 20 0 := if_pos hr
/-- a head told by its five numbers, as cells -/
def hdC (h : Hd) : List Value := [iV h.seq, iV h.ep, iV h.cut, iV h.st, iV h.mrk]
theorem hdC_len (h : Hd) : (hdC h).length = 5 := rfl
def fpV (b : Nat) (k : Nat) : Value := .pointer (some ⟨b, k, none⟩)
theorem hdP_yes {s : Bs} (h1 : s.length = 64) (h2 : hdL ⟨(takeS s 8).1, (takeS (takeS s 8).2.1 8).1, (takeS (takeS (takeS s 8).2.1 8).2.1 8).1, (takeS (takeS (takeS (takeS s 8).2.1 8).2.1 8).2.1 8).1, (takeS (takeS (takeS (takeS (takeS s 8).2.1 8).2.1 8).2.1 8).2.1 8).1⟩ = s) :
    hdP s = (⟨(takeS s 8).1, (takeS (takeS s 8).2.1 8).1, (takeS (takeS (takeS s 8).2.1 8).2.1 8).1, (takeS (takeS (takeS (takeS s 8).2.1 8).2.1 8).2.1 8).1, (takeS (takeS (takeS (takeS (takeS s 8).2.1 8).2.1 8).2.1 8).2.1 8).1⟩, true) := by
  unfold hdP
  exact if_pos ⟨h1, h2⟩
theorem hdP_no {s : Bs} (h : s.length ≠ 64 ∨ hdL ⟨(takeS s 8).1, (takeS (takeS s 8).2.1 8).1, (takeS (takeS (takeS s 8).2.1 8).2.1 8).1, (takeS (takeS (takeS (takeS s 8).2.1 8).2.1 8).2.1 8).1, (takeS (takeS (takeS (takeS (takeS s 8).2.1 8).2.1 8).2.1 8).2.1 8).1⟩ ≠ s) : hdP s = (hdZ, false) := by
  unfold hdP
  exact if_neg (fun g => h.elim (fun k => k g.1) (fun k => k g.2))
theorem hdD_yes {s : Bs} (h1 : s.length = 64) (h2 : hdR ⟨(takeS s 8).1, (takeS (s.drop 8) 8).1, (takeS (s.drop 16) 8).1, (takeS (s.drop 24) 8).1, (takeS (s.drop 32) 8).1⟩ = true) (h3 : hdL ⟨(takeS s 8).1, (takeS (s.drop 8) 8).1, (takeS (s.drop 16) 8).1, (takeS (s.drop 24) 8).1, (takeS (s.drop 32) 8).1⟩ = s) :
    hdD s = (⟨(takeS s 8).1, (takeS (s.drop 8) 8).1, (takeS (s.drop 16) 8).1, (takeS (s.drop 24) 8).1, (takeS (s.drop 32) 8).1⟩, true) := by
  unfold hdD
  exact if_pos ⟨h1, h2, h3⟩
theorem hdD_no {s : Bs} (h : s.length ≠ 64 ∨ hdR ⟨(takeS s 8).1, (takeS (s.drop 8) 8).1, (takeS (s.drop 16) 8).1, (takeS (s.drop 24) 8).1, (takeS (s.drop 32) 8).1⟩ = false ∨ hdL ⟨(takeS s 8).1, (takeS (s.drop 8) 8).1, (takeS (s.drop 16) 8).1, (takeS (s.drop 24) 8).1, (takeS (s.drop 32) 8).1⟩ ≠ s) : hdD s = (hdZ, false) := by
  unfold hdD
  refine if_neg (fun g => ?_)
  rcases h with k | k | k
  · exact k g.1
  · rw [k] at g; cases g.2.1
  · exact k g.2.2
theorem ldG_no {la : List Bs} {x : Int} {i : Nat} {bh : Hd} {fd : Bool} {rd : Bs} (h : ldG la x i = (bh, fd)) (hs : rd = sec la (x + (i : Int))) (g : (hdP rd).2 = false ∨ ¬ ((hdP rd).1.seq % 2 = (i : Int)) ∨ (fd = true ∧ ¬ bh.seq < (hdP rd).1.seq)) : ldG la x (i + 1) = (bh, fd) := by
  show ldStep _ (ldG la x i) _ = _
  rw [h, ← hs]
  unfold ldStep
  refine if_neg ?_
  rintro ⟨k1, k2, k3⟩
  rcases g with g | g | ⟨g1, g2⟩
  · rw [g] at k1; cases k1
  · exact g k2
  · rcases k3 with k3 | k3
    · rw [show fd = false from k3] at g1; cases g1
    · exact g2 k3
theorem ldG_yes {la : List Bs} {x : Int} {i : Nat} {bh : Hd} {fd : Bool} {rd : Bs} (h : ldG la x i = (bh, fd)) (hs : rd = sec la (x + (i : Int))) (g1 : (hdP rd).2 = true) (g2 : (hdP rd).1.seq % 2 = (i : Int)) (g3 : fd = false ∨ bh.seq < (hdP rd).1.seq) : ldG la x (i + 1) = ((hdP rd).1, true) := by
  show ldStep _ (ldG la x i) _ = _
  rw [h, ← hs]
  exact if_pos ⟨g1, g2, g3⟩
theorem r7_end {h : Hd} {u : Bs} {j : Nat} (hr : hdR h = true) (hu : u = sealS (hdN h) ++ List.replicate j 0) (h1 : u.length ≤ 64) (h2 : 64 ≤ u.length) : hdL h = u := by
  have e := congrArg List.length hu
  rw [List.length_append, hseal_len, List.length_replicate] at e
  rw [hdL_yes hr, hu, show j = 20 by omega]
theorem hdD_nn (s : Bs) : 0 ≤ (hdD s).1.seq ∧ (hdD s).1.seq ≤ 4611686018427387903 := by rw [← hd_eq]; exact hdP_nn s
theorem ldP_ne (a b : Bs) : (ldP a b).2 ≠ 1 := by
  unfold ldP
  intro h
  simp only at h
  split at h
  · exact absurd (show (0 : Int) = 1 from h) (by decide)
  · split at h
    · exact absurd (show (7 : Int) = 1 from h) (by decide)
    · exact absurd (show (9 : Int) = 1 from h) (by decide)
theorem hl_eq {p : Pw} {la : List Bs} {x : Int} (hp : p.off = false) (g : atOk la.length x) : ldH p la x = (ldD (readS p la [] x) (readS p la [] (x + 1))).1 ∧ ldE p la x = (ldD (readS p la [] x) (readS p la [] (x + 1))).2 := by
  have h1 := (read_sec (la := la) hp (n := x) ⟨g.1, by have := g.2; omega⟩).1
  have h2 := (read_sec (la := la) hp (n := x + 1) ⟨by have := g.1; omega, by have := g.2; omega⟩).1
  rw [h1, h2, ← ld_eq]
  unfold ldH ldE
  rw [if_pos ⟨g, hp⟩, if_pos g, if_pos hp]
  exact ⟨rfl, rfl⟩
theorem ldE_arg {p : Pw} {la : List Bs} {x : Int} (hp : p.off = false) : ldE p la x ≠ 1 ↔ atOk la.length x := by
  unfold ldE
  by_cases g : atOk la.length x
  · rw [if_pos g, if_pos hp]; exact ⟨fun _ => g, fun _ => ldP_ne _ _⟩
  · rw [if_neg g]; exact ⟨fun h => absurd rfl h, fun h => absurd h g⟩
theorem putO_nil (k : Nat) (n : Int) (s : Bs) : putO k [] n s = [] := by unfold putO; split <;> rfl
theorem putA_64 {la : List Bs} {n : Int} {s : Bs} (h : Full64 la) : Full64 (putA la n s) := by
  unfold putA
  split
  · rename_i g
    intro x hx
    rcases List.mem_or_eq_of_mem_set hx with hx | rfl
    · exact h x hx
    · exact fill_len g.1
  · exact h
theorem putE_ok {k : Nat} {n : Int} {s : Bs} (h1 : s.length ≤ 64) (h2 : 0 ≤ n) (h3 : n < (k : Int)) : putE k n s = 0 := if_pos ⟨h1, h2, h3⟩
theorem ldD_last {s t : Bs} (hx : ¬ ((hdD s).2 = true ∧ (hdD s).1.seq % 2 = 0)) (hy : ¬ ((hdD t).2 = true ∧ (hdD t).1.seq % 2 = 1)) : ldD s t = (hdZ, if s = List.replicate 64 0 ∧ t = s then 7 else 9) := by
  have e1 : ((hdD s).2 && decide ((hdD s).1.seq % 2 = 0)) = false := by
    cases h : (hdD s).2 with
    | false => rfl
    | true => rw [Bool.true_and]; exact decide_eq_false (fun g => hx ⟨h, g⟩)
  have e2 : ((hdD t).2 && decide ((hdD t).1.seq % 2 = 1)) = false := by
    cases h : (hdD t).2 with
    | false => rfl
    | true => rw [Bool.true_and]; exact decide_eq_false (fun g => hy ⟨h, g⟩)
  unfold ldD
  simp only [e1, e2, Bool.false_eq_true, false_and, if_false]
  unfold blankB
  simp only [decide_eq_true_eq]
  split <;> rfl
theorem read_len0 {p : Pw} {la : List Bs} (h : Full64 la) (n : Int) : (readS p la [] n).length ≤ 64 := by
  unfold readS
  split
  · exact Nat.zero_le _
  · split
    · rename_i g
      have e : (la[n.toNat]?).getD [] = sec la n := rfl
      simp only [getB, Option.isSome_none, Bool.false_eq_true, if_false]
      rw [e, sec_len h g]
      exact Nat.le_refl _
    · exact Nat.zero_le _
/-- a power that has been used a few times -/
def Few (p : Pw) (k : Nat) : Prop := 0 ≤ p.uses ∧ p.uses ≤ k ∧ -(k : Int) ≤ p.left ∧ p.left ≤ 9223372036854775807
theorem Few.ok {p : Pw} {k : Nat} (h : Few p k) (hk : k ≤ 1000000) : PwOk p := ⟨h.1, by have := h.2.1; omega, by have := h.2.2.1; omega, h.2.2.2⟩
theorem Few.use {p : Pw} {k : Nat} (h : Few p k) : Few (useS p) (k + 1) := by
  obtain ⟨h1, h2, h3, h4⟩ := h
  unfold useS
  split
  · exact ⟨h1, by omega, by omega, h4⟩
  · exact ⟨by show 0 ≤ p.uses + 1; omega, by show p.uses + 1 ≤ _; omega, by show _ ≤ p.left - 1; omega, by show p.left - 1 ≤ _; omega⟩
theorem Few.mono {p : Pw} {k m : Nat} (h : Few p k) (hk : k ≤ m) : Few p m := ⟨h.1, by have := h.2.1; omega, by have := h.2.2.1; omega, h.2.2.2⟩
theorem Few.back {p : Pw} {k : Nat} (h : Few p k) : Few (backS p) k := h
theorem Few.arm {p : Pw} {k : Nat} (h : Few p k) {n : Int} (hn : n ≤ 9223372036854775807) : Few (armS p n) k := ⟨h.1, h.2.1, by show _ ≤ max n 0; omega, by show max n 0 ≤ _; omega⟩
theorem Few.new : Few (Pw.mk false false 0 0) 0 := ⟨by decide, by decide, by decide, by decide⟩
theorem useB_on {p : Pw} (h : useB p = true) : (useS p).off = false := by
  unfold useB at h
  rw [Bool.and_eq_true] at h
  simpa using h.2
theorem sec_rep {k : Nat} {n : Int} (h : n.toNat < k) : sec (List.replicate k blankS) n = blankS := by unfold sec; rw [List.getElem?_replicate, if_pos h]; rfl
theorem kp_start {k : Nat} (hk : 2 ≤ k) : KpA ((List.replicate k blankS).set (svN 0 (Hd.mk 0 0 0 0 0)).toNat (hdL (hdUp (Hd.mk 0 0 0 0 0)))) 0 (hdUp (Hd.mk 0 0 0 0 0)) := by
  have hn : inS (svN 0 (Hd.mk 0 0 0 0 0)) (List.replicate k blankS).length := by rw [List.length_replicate]; exact ⟨by decide, by show (1 : Int) < k; omega⟩
  unfold KpA
  rw [sec_set hn (by decide), sec_set hn (by decide), if_neg (by decide), if_pos (by decide), sec_rep (by show 0 < k; omega)]
  refine ⟨by decide +kernel, ?_⟩
  rw [if_neg (by decide)]
  refine ⟨rfl, fun g => ?_⟩
  rw [hdP_blank] at g
  cases g
/-- what a crash leaves of a Save that did not come through -/
theorem crash_kp {la : List Bs} {now h : Hd} {lo : List (Int × Bs)} (k : KpA la 0 now) (g : svTry la.length 0 h) (hs : h.seq = now.seq) (hlo : lo = [] ∨ lo = [(svN 0 h, hdL (hdUp h))]) (keep : List Int) :
    KpA (settleS lo la keep) 0 now ∨ KpA (settleS lo la keep) 0 (hdUp h) := by
  rcases hlo with rfl | rfl
  · rw [settle_none]; exact .inl k
  · rw [crash_one]
    split
    · exact .inr (k.set g hs)
    · exact .inl k
theorem crash_ld {p : Pw} {la : List Bs} {now h : Hd} {lo : List (Int × Bs)} (k : KpA la 0 now) (g : svTry la.length 0 h) (hs : h.seq = now.seq) (hlo : lo = [] ∨ lo = [(svN 0 h, hdL (hdUp h))]) (keep : List Int) :
    ldE (backS p) (settleS lo la keep) 0 = 0 ∧ (ldH (backS p) (settleS lo la keep) 0 = now ∨ ldH (backS p) (settleS lo la keep) 0 = hdUp h) := by
  have ha : atOk (settleS lo la keep).length 0 := by rw [settle_len]; exact g.2
  rcases crash_kp k g hs hlo keep with q | q
  · have e := q.ld (p := backS p) ha rfl; exact ⟨e.2, .inl e.1⟩
  · have e := q.ld (p := backS p) ha rfl; exact ⟨e.2, .inr e.1⟩
theorem crash_64 {la : List Bs} {h : Hd} {lo : List (Int × Bs)} (h64 : Full64 la) (g : svTry la.length 0 h) (hlo : lo = [] ∨ lo = [(svN 0 h, hdL (hdUp h))]) (keep : List Int) : Full64 (settleS lo la keep) := by
  rcases hlo with rfl | rfl
  · rw [settle_none]; exact h64
  · rw [crash_one]
    split
    · intro s hs
      rcases List.mem_or_eq_of_mem_set hs with hs | rfl
      · exact h64 s hs
      · exact hdU_len g.1
    · exact h64
theorem set_64 {la : List Bs} {x : Int} {h : Hd} (h64 : Full64 la) (g : svOk h) : Full64 (la.set (svN x h).toNat (hdL (hdUp h))) := by
  intro s hs
  rcases List.mem_or_eq_of_mem_set hs with hs | rfl
  · exact h64 s hs
  · exact hdU_len g
theorem lo_ok {la : List Bs} {x : Int} {h : Hd} {lo : List (Int × Bs)} (g : svTry la.length x h) (hlo : lo = [] ∨ lo = [(svN x h, hdL (hdUp h))]) : LoOk lo la.length := by
  rcases hlo with rfl | rfl
  · exact LoOk.nil _
  · intro p hp
    rw [List.mem_singleton.1 hp]
    exact ⟨svN_in g, hdU_len g.1⟩
end Go.Q
namespace Go.Q
open Go.Proofs
set_option linter.unusedVariables false
set_option maxRecDepth 100000
attribute [local irreducible] wpList OK Code.wp
set_option maxHeartbeats 4000000 in
theorem hright_c {E w : World} {R : List Hp} {h : Hd}  (hH : Has E w [R]) :
    Calls Tryz.prog 36 #[(.agg #[(.int .i64 h.seq), (.int .i64 h.ep), (.int .i64 h.cut), (.int .i64 h.st), (.int .i64 h.mrk)])] w fun e w' => e = .returned (.bool (hdR h)) ∧ Has E w' [R] := by
  refine c_enter (args := [(.agg #[(.int .i64 h.seq), (.int .i64 h.ep), (.int .i64 h.cut), (.int .i64 h.st), (.int .i64 h.mrk)])]) Tryz.func36 rfl Tryz.ntmps36 (by simp) ?_
  refine wp_seq_k fun K1 hK1 => ?_
  refine c_region ?_
  refine s_op (o_box (cs := #[(.int .i64 h.seq), (.int .i64 h.ep), (.int .i64 h.cut), (.int .i64 h.st), (.int .i64 h.mrk)]) rfl rfl hH fun b2 w3 hH4 => ?_)
  refine s_op (o_assign (v := (.bool false)) rfl ?_)
  refine s_nil ?_
  refine t_norm (hK1 _ _ ?_)
  refine wp_seq_k fun K5 hK5 => ?_
  refine c_region ?_
  refine s_op (o_fieldAddr (k := 0) (fun _ => by kernel_rfl) rfl ?_)
  refine s_op (o_load1 (v := (.int .i64 h.seq)) Tryz.underlying3 rfl rfl hH4 (seg_sub 0 rfl) (CellsAt.one rfl) ?_)
  refine s_op (o_fieldAddr (k := 1) (fun _ => by kernel_rfl) rfl ?_)
  refine s_op (o_load1 (v := (.int .i64 h.ep)) Tryz.underlying3 rfl rfl hH4 (seg_sub 0 rfl) (CellsAt.one rfl) ?_)
  refine s_op (o_fieldAddr (k := 2) (fun _ => by kernel_rfl) rfl ?_)
  refine s_op (o_load1 (v := (.int .i64 h.cut)) Tryz.underlying3 rfl rfl hH4 (seg_sub 0 rfl) (CellsAt.one rfl) ?_)
  refine s_op (o_fieldAddr (k := 3) (fun _ => by kernel_rfl) rfl ?_)
  refine s_op (o_load1 (v := (.int .i64 h.st)) Tryz.underlying3 rfl rfl hH4 (seg_sub 0 rfl) (CellsAt.one rfl) ?_)
  refine s_op (o_fieldAddr (k := 4) (fun _ => by kernel_rfl) rfl ?_)
  refine s_op (o_load1 (v := (.int .i64 h.mrk)) Tryz.underlying3 rfl rfl hH4 (seg_sub 0 rfl) (CellsAt.one rfl) ?_)
  refine s_op (o_buildSlice (ps := #[(0, (.int .i64 h.ep)), (1, (.int .i64 h.cut)), (2, (.int .i64 h.st)), (3, (.int .i64 h.mrk))]) (cells := #[(.int .i64 h.ep), (.int .i64 h.cut), (.int .i64 h.st), (.int .i64 h.mrk)]) Tryz.underlying46 ti3 (by decide) (parts4 rfl rfl rfl rfl) (by kernel_rfl) hH4 fun b6 w7 hH8 => ?_)
  refine s_op (o_callf (vs := #[(.int .i64 h.seq), (.slice (some ⟨b6, 0, none⟩) 4 4)]) ca57 rfl (args2 rfl rfl) (least_c hH8.all (l := [h.ep, h.cut, h.st, h.mrk]) h.seq ((sl_lit (f := iV) (l := [h.ep, h.cut, h.st, h.mrk]) rfl rfl (by simp)).mono (seg_sub 0 rfl))) ?_)
  rintro _ w11 ⟨rfl, hX9⟩
  refine ⟨_, rfl, ?_⟩
  have hH10 := hX9.of_all
  refine s_op (o_geq (a := [h.ep, h.cut, h.st, h.mrk].foldl min h.seq) (b := 0) rfl rfl ?_)
  refine s_op (o_move (v := (.bool (decide (0 ≤ [h.ep, h.cut, h.st, h.mrk].foldl min h.seq)))) rfl ?_)
  by_cases h12 : 0 ≤ [h.ep, h.cut, h.st, h.mrk].foldl min h.seq
  · -- 0 ≤ [h.ep, h.cut, h.st, h.mrk].foldl min h.seq
    refine s_on 16 rfl (congrArg Value.bool (decide_eq_true h12)) (o_fieldAddr (k := 1) (fun _ => by kernel_rfl) rfl ?_)
    refine s_on 16 rfl (congrArg Value.bool (decide_eq_true h12)) (o_load1 (v := (.int .i64 h.ep)) Tryz.underlying3 rfl rfl hH10 (seg_sub 1 rfl) (CellsAt.one rfl) ?_)
    refine s_on 16 rfl (congrArg Value.bool (decide_eq_true h12)) (o_leq (a := h.ep) (b := 2147483647) rfl rfl ?_)
    refine s_op (o_pick_t (u := (.bool (decide (h.ep ≤ 2147483647)))) ((rfl : _ = _).trans (congrArg Value.bool (decide_eq_true h12))) rfl ?_)
    refine s_op (o_move (v := (.bool (decide (h.ep ≤ 2147483647)))) rfl ?_)
    by_cases h13 : h.ep ≤ 2147483647
    · -- h.ep ≤ 2147483647
      refine s_on 21 rfl (congrArg Value.bool (decide_eq_true h13)) (o_fieldAddr (k := 0) (fun _ => by kernel_rfl) rfl ?_)
      refine s_on 21 rfl (congrArg Value.bool (decide_eq_true h13)) (o_load1 (v := (.int .i64 h.seq)) Tryz.underlying3 rfl rfl hH10 (seg_sub 1 rfl) (CellsAt.one rfl) ?_)
      refine s_on 21 rfl (congrArg Value.bool (decide_eq_true h13)) (o_fieldAddr (k := 2) (fun _ => by kernel_rfl) rfl ?_)
      refine s_on 21 rfl (congrArg Value.bool (decide_eq_true h13)) (o_load1 (v := (.int .i64 h.cut)) Tryz.underlying3 rfl rfl hH10 (seg_sub 1 rfl) (CellsAt.one rfl) ?_)
      refine s_on 21 rfl (congrArg Value.bool (decide_eq_true h13)) (o_fieldAddr (k := 3) (fun _ => by kernel_rfl) rfl ?_)
      refine s_on 21 rfl (congrArg Value.bool (decide_eq_true h13)) (o_load1 (v := (.int .i64 h.st)) Tryz.underlying3 rfl rfl hH10 (seg_sub 1 rfl) (CellsAt.one rfl) ?_)
      refine s_on 21 rfl (congrArg Value.bool (decide_eq_true h13)) (o_fieldAddr (k := 4) (fun _ => by kernel_rfl) rfl ?_)
      refine s_on 21 rfl (congrArg Value.bool (decide_eq_true h13)) (o_load1 (v := (.int .i64 h.mrk)) Tryz.underlying3 rfl rfl hH10 (seg_sub 1 rfl) (CellsAt.one rfl) ?_)
      refine s_on 21 rfl (congrArg Value.bool (decide_eq_true h13)) (o_buildSlice (ps := #[(0, (.int .i64 h.cut)), (1, (.int .i64 h.st)), (2, (.int .i64 h.mrk))]) (cells := #[(.int .i64 h.cut), (.int .i64 h.st), (.int .i64 h.mrk)]) Tryz.underlying46 ti3 (by decide) (parts3 rfl rfl rfl) (by kernel_rfl) hH10 fun b14 w15 hH16 => ?_)
      refine s_on 21 rfl (congrArg Value.bool (decide_eq_true h13)) (o_callf (vs := #[(.int .i64 h.seq), (.slice (some ⟨b14, 0, none⟩) 3 3)]) ca58 rfl (args2 rfl rfl) (most_c hH16.all (l := [h.cut, h.st, h.mrk]) h.seq ((sl_lit (f := iV) (l := [h.cut, h.st, h.mrk]) rfl rfl (by simp)).mono (seg_sub 0 rfl))) ?_)
      rintro _ w19 ⟨rfl, hX17⟩
      refine ⟨_, rfl, ?_⟩
      have hH18 := hX17.of_all
      refine s_on 21 rfl (congrArg Value.bool (decide_eq_true h13)) (o_leq (a := [h.cut, h.st, h.mrk].foldl max h.seq) (b := 4611686018427387903) rfl rfl ?_)
      refine s_op (o_pick_t (u := (.bool (decide ([h.cut, h.st, h.mrk].foldl max h.seq ≤ 4611686018427387903)))) ((rfl : _ = _).trans (congrArg Value.bool (decide_eq_true h13))) rfl ?_)
      refine s_op (o_assign (v := (.bool (decide ([h.cut, h.st, h.mrk].foldl max h.seq ≤ 4611686018427387903)))) rfl ?_)
      refine s_nil ?_
      refine t_norm (hK5 _ _ ?_)
      refine wp_ret ?_
      refine c_ret1 Tryz.results36  (v := (.bool (decide ([h.cut, h.st, h.mrk].foldl max h.seq ≤ 4611686018427387903)))) rfl ?_
      have q20 : (hdR h) = decide ([h.cut, h.st, h.mrk].foldl max h.seq ≤ 4611686018427387903) := by unfold hdR; first | (rw [decide_eq_decide]; simp only [List.foldl_cons, List.foldl_nil] at *; omega) | (rw [decide_eq_false_iff_not]; simp only [List.foldl_cons, List.foldl_nil] at *; omega)
      have hH21 : Has E w19 [R] := (hH18.front 3 rfl).first 1 rfl
      exact ⟨by rw [q20], hH21⟩
    · -- not: h.ep ≤ 2147483647
      refine s_off (b' := false) 21 rfl (congrArg Value.bool (decide_eq_false h13)) rfl ?_
      refine s_off (b' := false) 21 rfl (congrArg Value.bool (decide_eq_false h13)) rfl ?_
      refine s_off (b' := false) 21 rfl (congrArg Value.bool (decide_eq_false h13)) rfl ?_
      refine s_off (b' := false) 21 rfl (congrArg Value.bool (decide_eq_false h13)) rfl ?_
      refine s_off (b' := false) 21 rfl (congrArg Value.bool (decide_eq_false h13)) rfl ?_
      refine s_off (b' := false) 21 rfl (congrArg Value.bool (decide_eq_false h13)) rfl ?_
      refine s_off (b' := false) 21 rfl (congrArg Value.bool (decide_eq_false h13)) rfl ?_
      refine s_off (b' := false) 21 rfl (congrArg Value.bool (decide_eq_false h13)) rfl ?_
      refine s_off (b' := false) 21 rfl (congrArg Value.bool (decide_eq_false h13)) rfl ?_
      refine s_off (b' := false) 21 rfl (congrArg Value.bool (decide_eq_false h13)) rfl ?_
      refine s_off (b' := false) 21 rfl (congrArg Value.bool (decide_eq_false h13)) rfl ?_
      refine s_op (o_pick_f (u := (.bool false)) ((rfl : _ = _).trans (congrArg Value.bool (decide_eq_false h13))) rfl ?_)
      refine s_op (o_assign (v := (.bool false)) rfl ?_)
      refine s_nil ?_
      refine t_norm (hK5 _ _ ?_)
      refine wp_ret ?_
      refine c_ret1 Tryz.results36  (v := (.bool false)) rfl ?_
      have q22 : (hdR h) = false := by unfold hdR; first | (rw [decide_eq_decide]; simp only [List.foldl_cons, List.foldl_nil] at *; omega) | (rw [decide_eq_false_iff_not]; simp only [List.foldl_cons, List.foldl_nil] at *; omega)
      have hH23 : Has E w11 [R] := (hH10.front 2 rfl).first 1 rfl
      exact ⟨by rw [q22], hH23⟩
  · -- not: 0 ≤ [h.ep, h.cut, h.st, h.mrk].foldl min h.seq
    refine s_off (b' := false) 16 rfl (congrArg Value.bool (decide_eq_false h12)) rfl ?_
    refine s_off (b' := false) 16 rfl (congrArg Value.bool (decide_eq_false h12)) rfl ?_
    refine s_off (b' := false) 16 rfl (congrArg Value.bool (decide_eq_false h12)) rfl ?_
    refine s_op (o_pick_f (u := (.bool false)) ((rfl : _ = _).trans (congrArg Value.bool (decide_eq_false h12))) rfl ?_)
    refine s_op (o_move (v := (.bool false)) rfl ?_)
    refine s_off (b' := false) 21 rfl rfl rfl ?_
    refine s_off (b' := false) 21 rfl rfl rfl ?_
    refine s_off (b' := false) 21 rfl rfl rfl ?_
    refine s_off (b' := false) 21 rfl rfl rfl ?_
    refine s_off (b' := false) 21 rfl rfl rfl ?_
    refine s_off (b' := false) 21 rfl rfl rfl ?_
    refine s_off (b' := false) 21 rfl rfl rfl ?_
    refine s_off (b' := false) 21 rfl rfl rfl ?_
    refine s_off (b' := false) 21 rfl rfl rfl ?_
    refine s_off (b' := false) 21 rfl rfl rfl ?_
    refine s_off (b' := false) 21 rfl rfl rfl ?_
    refine s_op (o_pick_f (u := (.bool false)) rfl rfl ?_)
    refine s_op (o_assign (v := (.bool false)) rfl ?_)
    refine s_nil ?_
    refine t_norm (hK5 _ _ ?_)
    refine wp_ret ?_
    refine c_ret1 Tryz.results36  (v := (.bool false)) rfl ?_
    have q24 : (hdR h) = false := by unfold hdR; first | (rw [decide_eq_decide]; simp only [List.foldl_cons, List.foldl_nil] at *; omega) | (rw [decide_eq_false_iff_not]; simp only [List.foldl_cons, List.foldl_nil] at *; omega)
    have hH25 : Has E w11 [R] := (hH10.front 2 rfl).first 1 rfl
    exact ⟨by rw [q24], hH25⟩
set_option maxHeartbeats 4000000 in
theorem hlaid_c {E w : World} {R : List Hp} {h : Hd}  (hH : Has E w [R]) (hg : CellsAt R 0 0 nibV) :
    Calls Tryz.prog 14 #[(.agg #[(.int .i64 h.seq), (.int .i64 h.ep), (.int .i64 h.cut), (.int .i64 h.st), (.int .i64 h.mrk)])] w fun e w' => e = .returned (S (hdL h)) ∧ Has E w' [R] := by
  refine c_enter (args := [(.agg #[(.int .i64 h.seq), (.int .i64 h.ep), (.int .i64 h.cut), (.int .i64 h.st), (.int .i64 h.mrk)])]) Tryz.func14 rfl Tryz.ntmps14 (by simp) ?_
  refine wp_seq_k fun K1 hK1 => ?_
  refine c_region ?_
  refine s_op (o_box (cs := #[(.int .i64 h.seq), (.int .i64 h.ep), (.int .i64 h.cut), (.int .i64 h.st), (.int .i64 h.mrk)]) rfl rfl hH fun b2 w3 hH4 => ?_)
  refine s_op (o_assign (v := (S ([] : List UInt8))) rfl ?_)
  refine s_nil ?_
  refine t_norm (hK1 _ _ ?_)
  refine wp_seq_k fun K5 hK5 => ?_
  refine wp_seq_k fun K6 hK6 => ?_
  refine c_region ?_
  refine s_op (o_loadN (cs := [(.int .i64 h.seq), (.int .i64 h.ep), (.int .i64 h.cut), (.int .i64 h.st), (.int .i64 h.mrk)]) Tryz.underlying27 rfl ti27 rfl hH4 (seg_sub 0 rfl) (CellsAt.one rfl) ?_)
  refine s_op (o_callf (vs := #[(.agg #[(.int .i64 h.seq), (.int .i64 h.ep), (.int .i64 h.cut), (.int .i64 h.st), (.int .i64 h.mrk)])]) ca36 rfl (args1 rfl) (hright_c (h := h) hH4.all ) ?_)
  rintro _ w9 ⟨rfl, hX7⟩
  refine ⟨_, rfl, ?_⟩
  have hH8 := hX7.of_all
  refine s_op (o_not rfl ?_)
  refine s_nil ?_
  refine t_norm (hK6 _ _ ?_)
  refine c_condb rfl (fun h10 => ?_) (fun h10 => ?_)
  · -- !(hdR h)
    have h10_n : (hdR h) = false := by simpa using h10
    have hE_ := hdL_no (h := h) (by simpa using h10)
    refine wp_seq_k fun K11 hK11 => ?_
    refine c_region ?_
    refine s_op (o_assign (v := (S ([] : List UInt8))) rfl ?_)
    refine s_nil ?_
    refine t_norm (hK11 _ _ ?_)
    refine wp_ret ?_
    refine t_ret (c_ret1 Tryz.results14  (v := (S ([] : List UInt8))) rfl ?_)
    have q12 : (hdL h) = ([] : List UInt8) := by exact hE_
    have hH13 : Has E w9 [R] := (hH8.front 1 rfl).first 1 rfl
    exact ⟨by rw [q12], hH13⟩
  · -- not: !(hdR h)
    have h10_n : (hdR h) = true := by simpa using h10
    have hR_ : hdR h = true := by simpa using h10
    have hu_ := hput hR_
    have hsl_ : (sealS [putS 8 [h.seq, h.ep, h.cut, h.st, h.mrk]].flatten).length = 44 := by rw [hu_, show [hdN h].flatten = hdN h by simp]; exact hseal_len h
    have hnl_ := hdN_len h
    refine wp_skip ?_
    refine t_norm (hK5 _ _ ?_)
    refine wp_seq_k fun K14 hK14 => ?_
    refine c_region ?_
    refine s_op (o_fieldAddr (k := 0) (fun _ => by kernel_rfl) rfl ?_)
    refine s_op (o_load1 (v := (.int .i64 h.seq)) Tryz.underlying3 rfl rfl hH8 (seg_sub 0 rfl) (CellsAt.one rfl) ?_)
    refine s_op (o_fieldAddr (k := 1) (fun _ => by kernel_rfl) rfl ?_)
    refine s_op (o_load1 (v := (.int .i64 h.ep)) Tryz.underlying3 rfl rfl hH8 (seg_sub 0 rfl) (CellsAt.one rfl) ?_)
    refine s_op (o_fieldAddr (k := 2) (fun _ => by kernel_rfl) rfl ?_)
    refine s_op (o_load1 (v := (.int .i64 h.cut)) Tryz.underlying3 rfl rfl hH8 (seg_sub 0 rfl) (CellsAt.one rfl) ?_)
    refine s_op (o_fieldAddr (k := 3) (fun _ => by kernel_rfl) rfl ?_)
    refine s_op (o_load1 (v := (.int .i64 h.st)) Tryz.underlying3 rfl rfl hH8 (seg_sub 0 rfl) (CellsAt.one rfl) ?_)
    refine s_op (o_fieldAddr (k := 4) (fun _ => by kernel_rfl) rfl ?_)
    refine s_op (o_load1 (v := (.int .i64 h.mrk)) Tryz.underlying3 rfl rfl hH8 (seg_sub 0 rfl) (CellsAt.one rfl) ?_)
    refine s_op (o_buildSlice (ps := #[(0, (.int .i64 h.seq)), (1, (.int .i64 h.ep)), (2, (.int .i64 h.cut)), (3, (.int .i64 h.st)), (4, (.int .i64 h.mrk))]) (cells := #[(.int .i64 h.seq), (.int .i64 h.ep), (.int .i64 h.cut), (.int .i64 h.st), (.int .i64 h.mrk)]) Tryz.underlying46 ti3 (by decide) (parts5 rfl rfl rfl rfl rfl) (by kernel_rfl) hH8 fun b15 w16 hH17 => ?_)
    refine s_op (o_callf (vs := #[(.int .i64 8), (.slice (some ⟨b15, 0, none⟩) 5 5)]) ca38 rfl (args2 rfl rfl) (put_c hH17.all 8 (l := [h.seq, h.ep, h.cut, h.st, h.mrk]) ((sl_lit (f := iV) (l := [h.seq, h.ep, h.cut, h.st, h.mrk]) rfl rfl (by simp)).mono (seg_sub 0 rfl)) (by simp)) ?_)
    rintro _ w20 ⟨rfl, hX18⟩
    refine ⟨_, rfl, ?_⟩
    have hH19 := hX18.of_all
    refine s_op (o_buildSlice (ps := #[(0, (S (putS 8 [h.seq, h.ep, h.cut, h.st, h.mrk])))]) (cells := #[(S (putS 8 [h.seq, h.ep, h.cut, h.st, h.mrk]))]) Tryz.underlying79 ti9 (by decide) (parts1 rfl) (by kernel_rfl) hH19 fun b21 w22 hH23 => ?_)
    refine s_op (o_callf (vs := #[(.slice (some ⟨b21, 0, none⟩) 1 1)]) ca37 rfl (args1 rfl) (seal_c hH23.all (hg.mono (seg_sub 3 rfl)) ((sl_lit (f := sV) (l := [(putS 8 [h.seq, h.ep, h.cut, h.st, h.mrk])]) rfl rfl (by simp)).mono (seg_sub 0 rfl)) (by simp) (by rw [hu_]; simp only [List.flatten_cons, List.flatten_nil, List.append_nil]; omega)) ?_)
    rintro _ w26 ⟨rfl, hX24⟩
    refine ⟨_, rfl, ?_⟩
    have hH25 := hX24.of_all
    refine s_op (o_assign (v := (S (sealS [(putS 8 [h.seq, h.ep, h.cut, h.st, h.mrk])].flatten))) rfl ?_)
    refine s_nil ?_
    refine t_norm (hK14 _ _ ?_)
    refine wp_seq_k fun K27 hK27 => ?_
    refine c_region ?_
    refine s_op (o_move (v := (S (sealS [(putS 8 [h.seq, h.ep, h.cut, h.st, h.mrk])].flatten))) rfl ?_)
    refine s_op (o_move (v := (S (sealS [(putS 8 [h.seq, h.ep, h.cut, h.st, h.mrk])].flatten))) rfl ?_)
    refine s_op (o_slen Tryz.underlying9 rfl ?_)
    refine s_op (o_sub (a := 64) (b := ((sealS [(putS 8 [h.seq, h.ep, h.cut, h.st, h.mrk])].flatten).length : Int)) rfl rfl (w64 (by omega) (by omega)) ?_)
    obtain ⟨n28, hn28⟩ : ∃ n_ : Nat, 64 - ((sealS [(putS 8 [h.seq, h.ep, h.cut, h.st, h.mrk])].flatten).length : Int) = (n_ : Int) := ⟨(64 - ((sealS [(putS 8 [h.seq, h.ep, h.cut, h.st, h.mrk])].flatten).length : Int)).toNat, by omega⟩
    refine s_op (o_callf (vs := #[(S [0]), (.int .i64 (64 - ((sealS [(putS 8 [h.seq, h.ep, h.cut, h.st, h.mrk])].flatten).length : Int)))]) ca39 rfl (args2 rfl rfl) ((by rw [hn28]; exact repeat_c hH25.all n28 (by omega))) ?_)
    rintro _ w31 ⟨rfl, hX29⟩
    refine ⟨_, rfl, ?_⟩
    have hH30 := hX29.of_all
    refine s_op (o_sadd rfl rfl (by rw [List.length_replicate]; omega) ?_)
    refine s_op (o_assign (v := (S ((sealS [(putS 8 [h.seq, h.ep, h.cut, h.st, h.mrk])].flatten) ++ (List.replicate n28 0)))) rfl ?_)
    refine s_nil ?_
    refine t_norm (hK27 _ _ ?_)
    refine wp_ret ?_
    refine c_ret1 Tryz.results14  (v := (S ((sealS [(putS 8 [h.seq, h.ep, h.cut, h.st, h.mrk])].flatten) ++ (List.replicate n28 0)))) rfl ?_
    have hE_ : hdL h = (sealS [(putS 8 [h.seq, h.ep, h.cut, h.st, h.mrk])].flatten) ++ (List.replicate n28 0) := by rw [hdL_yes hR_, hu_, show [hdN h].flatten = hdN h by simp, show n28 = 20 by omega]
    have q32 : (hdL h) = (sealS [(putS 8 [h.seq, h.ep, h.cut, h.st, h.mrk])].flatten) ++ (List.replicate n28 0) := by exact hE_
    have hH33 : Has E w31 [R] := (hH30.front 3 rfl).first 1 rfl
    exact ⟨by rw [q32], hH33⟩
end Go.Q
namespace Go.Q
section rounds
variable {P : Program} {Q : Exit → Act → World → Prop} {w : World} {N : Nat} {r : Nat → Value} {c : Code}
theorem u_loop (n : Nat) (h : Code.rounds P c Q n (fr N r) w) : (Code.loop c).wp P Q (fr N r) w := wp_loop_rounds n h
theorem u_round {m : Nat} (h : c.wp P (Exit.then (Code.rounds P c Q m) Q) (fr N r) w) : Code.rounds P c Q (m + 1) (fr N r) w := h
end rounds
end Go.Q
namespace Go.Q
open Go.Proofs
set_option linter.unusedVariables false
set_option maxRecDepth 100000
attribute [local irreducible] wpList OK Code.wp
set_option maxHeartbeats 4000000 in
theorem hread_c {E w : World} {R : List Hp} {s : Bs}  (hH : Has E w [R]) (hg : CellsAt R 0 0 nibV) (hs : s.length ≤ 1000000) :
    Calls Tryz.prog 12 #[(S s)] w fun e w' => e = .returned (.tuple #[(.agg #[(.int .i64 ((hdP s).1).seq), (.int .i64 ((hdP s).1).ep), (.int .i64 ((hdP s).1).cut), (.int .i64 ((hdP s).1).st), (.int .i64 ((hdP s).1).mrk)]), (.bool ((hdP s).2))]) ∧ Has E w' [R] := by
  have t1_ := take_rest_le s 8
  have t2_ := take_rest_le (takeS s 8).2.1 8
  have t3_ := take_rest_le (takeS (takeS s 8).2.1 8).2.1 8
  have t4_ := take_rest_le (takeS (takeS (takeS s 8).2.1 8).2.1 8).2.1 8
  refine c_enter (args := [(S s)]) Tryz.func12 rfl Tryz.ntmps12 (by simp) ?_
  refine wp_seq_k fun K1 hK1 => ?_
  refine c_region ?_
  refine s_op (o_alloc (cs := #[(.int .i64 0), (.int .i64 0), (.int .i64 0), (.int .i64 0), (.int .i64 0)]) ti27 rfl hH fun b2 w3 hH4 => ?_)
  refine s_op (o_assign (v := (.bool false)) rfl ?_)
  refine s_nil ?_
  refine t_norm (hK1 _ _ ?_)
  refine wp_seq_k fun K5 hK5 => ?_
  refine wp_seq_k fun K6 hK6 => ?_
  refine c_region ?_
  refine s_op (o_move (v := (S s)) rfl ?_)
  refine s_op (o_slen Tryz.underlying9 rfl ?_)
  refine s_op (o_neq (a := (s.length : Int)) (b := 64) rfl rfl ?_)
  refine s_nil ?_
  refine t_norm (hK6 _ _ ?_)
  refine c_cond rfl (fun h7 => ?_) (fun h7 => ?_)
  · -- (s.length : Int) ≠ 64
    refine wp_seq_k fun K8 hK8 => ?_
    refine c_region ?_
    refine s_op (o_sight (v := (.agg #[(.int .i64 0), (.int .i64 0), (.int .i64 0), (.int .i64 0), (.int .i64 0)])) (fun _ => by kernel_rfl) ?_)
    refine s_eff (o_storeN (vs := [(.int .i64 0), (.int .i64 0), (.int .i64 0), (.int .i64 0), (.int .i64 0)]) (c' := #[(.int .i64 0), (.int .i64 0), (.int .i64 0), (.int .i64 0), (.int .i64 0)]) ti27 rfl rfl rfl rfl (by intro u hu; simp only [List.mem_cons, List.not_mem_nil, or_false] at hu; rcases hu with rfl | rfl | rfl | rfl | rfl <;> first | rfl) (by simp) (by kernel_rfl) (hH4.front 0 rfl) fun w9 hH10 => ?_)
    refine s_op (o_assign (v := (.bool false)) rfl ?_)
    refine s_nil ?_
    refine t_norm (hK8 _ _ ?_)
    refine wp_ret ?_
    refine t_ret (c_retC2 Tryz.results12 rfl (run_loadVarN (cs := [(.int .i64 0), (.int .i64 0), (.int .i64 0), (.int .i64 0), (.int .i64 0)]) Tryz.underlying27 rfl ti27 hH10 (seg_sub 0 rfl) (CellsAt.one rfl)) (x := (.bool false)) rfl ?_)
    have hE_ := hdP_no (s := s) (.inl (by omega))
    have q11 : (hdP s).1 = (Hd.mk 0 0 0 0 0) := by exact (congrArg Prod.fst hE_).trans rfl
    have q12 : (hdP s).2 = false := by exact (congrArg Prod.snd hE_).trans rfl
    have hH13 : Has E w9 [R] := (hH10.front 1 rfl).first 1 rfl
    exact ⟨by rw [q11]; rw [q12], hH13⟩
  · -- not: (s.length : Int) ≠ 64
    refine wp_skip ?_
    refine t_norm (hK5 _ _ ?_)
    refine wp_seq_k fun K14 hK14 => ?_
    refine c_region ?_
    refine s_op (o_alloc (cs := #[(.int .i64 0), (.int .i64 0), (.int .i64 0), (.int .i64 0), (.int .i64 0)]) ti27 rfl hH4 fun b15 w16 hH17 => ?_)
    refine s_nil ?_
    refine t_norm (hK14 _ _ ?_)
    refine wp_seq_k fun K18 hK18 => ?_
    refine c_region ?_
    refine s_op (o_move (v := (S s)) rfl ?_)
    refine s_op (o_assign (v := (S s)) rfl ?_)
    refine s_nil ?_
    refine t_norm (hK18 _ _ ?_)
    refine wp_seq_k fun K19 hK19 => ?_
    refine wp_seq_k fun K20 hK20 => ?_
    refine c_region ?_
    refine s_op (o_fieldAddr (k := 0) (fun _ => by kernel_rfl) rfl ?_)
    refine s_op (o_fieldAddr (k := 1) (fun _ => by kernel_rfl) rfl ?_)
    refine s_op (o_fieldAddr (k := 2) (fun _ => by kernel_rfl) rfl ?_)
    refine s_op (o_fieldAddr (k := 3) (fun _ => by kernel_rfl) rfl ?_)
    refine s_op (o_fieldAddr (k := 4) (fun _ => by kernel_rfl) rfl ?_)
    refine s_op (o_buildSlice (ps := #[(0, (.pointer (some ⟨b15, 0, none⟩))), (1, (.pointer (some ⟨b15, 1, none⟩))), (2, (.pointer (some ⟨b15, 2, none⟩))), (3, (.pointer (some ⟨b15, 3, none⟩))), (4, (.pointer (some ⟨b15, 4, none⟩)))]) (cells := #[(.pointer (some ⟨b15, 0, none⟩)), (.pointer (some ⟨b15, 1, none⟩)), (.pointer (some ⟨b15, 2, none⟩)), (.pointer (some ⟨b15, 3, none⟩)), (.pointer (some ⟨b15, 4, none⟩))]) Tryz.underlying68 ti67 (by decide) (parts5 rfl rfl rfl rfl rfl) (by kernel_rfl) hH17 fun b21 w22 hH23 => ?_)
    refine s_op (o_lenS Tryz.underlying68 rfl (sl_lit (f := (fpV b15)) (l := [0, 1, 2, 3, 4]) (g := (0, 0)) (T := 67) rfl rfl (by simp)) ?_)
    refine s_op (o_move (v := (.int .i64 0)) rfl ?_)
    refine s_nil ?_
    refine t_norm (hK20 _ _ ?_)
    refine wp_block ?_
    refine u_loop 6 (u_round ?_)
    refine wp_seq_k fun K24 hK24 => ?_
    refine c_region ?_
    refine s_op (o_lss (a := 0) (b := ((5 : Nat) : Int)) rfl rfl ?_)
    refine s_nil ?_
    refine t_norm (hK24 _ _ ?_)
    refine wp_seq_k fun K25 hK25 => ?_
    refine c_true rfl rfl ?_
    refine wp_skip ?_
    refine t_norm (hK25 _ _ ?_)
    refine wp_seq_k fun K26 hK26 => ?_
    refine wp_block ?_
    refine wp_seq_k fun K27 hK27 => ?_
    refine c_region ?_
    refine s_op (o_index1 Tryz.underlying68 ti67 rfl (sl_lit (f := (fpV b15)) (l := [0, 1, 2, 3, 4]) (g := (0, 0)) (T := 67) rfl rfl (by simp)) rfl (by omega) (show [0, 1, 2, 3, 4][((0 : Int)).toNat]? = some 0 from rfl) fun b28 o29 hc30 => ?_)
    refine s_op (o_load1 (v := (.pointer (some ⟨b15, 0, none⟩))) Tryz.underlying67 rfl rfl hH23 (seg_sub 0 rfl) hc30 ?_)
    refine s_op (o_assign (v := (.pointer (some ⟨b15, 0, none⟩))) rfl ?_)
    refine s_nil ?_
    refine t_norm (hK27 _ _ ?_)
    refine c_region ?_
    refine s_op (o_move (v := (.pointer (some ⟨b15, 0, none⟩))) rfl ?_)
    refine s_op (o_move (v := (S s)) rfl ?_)
    refine s_op (o_callf (vs := #[(S s), (.int .i64 8)]) ca34 rfl (args2 rfl rfl) (take_c hH23.all 8 s (by omega)) ?_)
    rintro _ w33 ⟨rfl, hX31⟩
    refine ⟨_, rfl, ?_⟩
    have hH32 := hX31.of_all
    refine s_op (o_move (v := (.tuple #[(.int .i64 ((takeS s 8).1)), (S ((takeS s 8).2.1)), (.bool ((takeS s 8).2.2))])) rfl ?_)
    refine s_op (o_extract (v := (.int .i64 ((takeS s 8).1))) rfl rfl ?_)
    refine s_op (o_extract (v := (S ((takeS s 8).2.1))) rfl rfl ?_)
    refine s_op (o_extract (v := (.bool ((takeS s 8).2.2))) rfl rfl ?_)
    refine s_op (o_nilCheck rfl ?_)
    refine s_eff (o_store1 (c' := #[(.int .i64 ((takeS s 8).1)), (.int .i64 0), (.int .i64 0), (.int .i64 0), (.int .i64 0)]) ti3 rfl rfl rfl (by simp) rfl (hH32.front 1 rfl) fun w34 hH35 => ?_)
    refine s_op (o_assign (v := (S ((takeS s 8).2.1))) rfl ?_)
    refine s_nil ?_
    refine b_norm ?_
    refine t_norm (hK26 _ _ ?_)
    refine c_region ?_
    refine s_op (o_add (a := 0) (b := 1) (c := 1) rfl rfl (by decide) ?_)
    refine s_op (o_move (v := (.int .i64 1)) rfl ?_)
    refine s_nil ?_
    refine t_norm (u_round ?_)
    refine wp_seq_k fun K36 hK36 => ?_
    refine c_region ?_
    refine s_op (o_lss (a := 1) (b := ((5 : Nat) : Int)) rfl rfl ?_)
    refine s_nil ?_
    refine t_norm (hK36 _ _ ?_)
    refine wp_seq_k fun K37 hK37 => ?_
    refine c_true rfl rfl ?_
    refine wp_skip ?_
    refine t_norm (hK37 _ _ ?_)
    refine wp_seq_k fun K38 hK38 => ?_
    refine wp_block ?_
    refine wp_seq_k fun K39 hK39 => ?_
    refine c_region ?_
    refine s_op (o_index1 Tryz.underlying68 ti67 rfl (sl_lit (f := (fpV b15)) (l := [0, 1, 2, 3, 4]) (g := (0, 0)) (T := 67) rfl rfl (by simp)) rfl (by omega) (show [0, 1, 2, 3, 4][((1 : Int)).toNat]? = some 1 from rfl) fun b40 o41 hc42 => ?_)
    refine s_op (o_load1 (v := (.pointer (some ⟨b15, 1, none⟩))) Tryz.underlying67 rfl rfl hH35 (seg_sub 1 rfl) hc42 ?_)
    refine s_op (o_assign (v := (.pointer (some ⟨b15, 1, none⟩))) rfl ?_)
    refine s_nil ?_
    refine t_norm (hK39 _ _ ?_)
    refine c_region ?_
    refine s_op (o_move (v := (.pointer (some ⟨b15, 1, none⟩))) rfl ?_)
    refine s_op (o_move (v := (S ((takeS s 8).2.1))) rfl ?_)
    refine s_op (o_callf (vs := #[(S ((takeS s 8).2.1)), (.int .i64 8)]) ca34 rfl (args2 rfl rfl) (take_c hH35.all 8 ((takeS s 8).2.1) (by omega)) ?_)
    rintro _ w45 ⟨rfl, hX43⟩
    refine ⟨_, rfl, ?_⟩
    have hH44 := hX43.of_all
    refine s_op (o_move (v := (.tuple #[(.int .i64 ((takeS ((takeS s 8).2.1) 8).1)), (S ((takeS ((takeS s 8).2.1) 8).2.1)), (.bool ((takeS ((takeS s 8).2.1) 8).2.2))])) rfl ?_)
    refine s_op (o_extract (v := (.int .i64 ((takeS ((takeS s 8).2.1) 8).1))) rfl rfl ?_)
    refine s_op (o_extract (v := (S ((takeS ((takeS s 8).2.1) 8).2.1))) rfl rfl ?_)
    refine s_op (o_extract (v := (.bool ((takeS ((takeS s 8).2.1) 8).2.2))) rfl rfl ?_)
    refine s_op (o_nilCheck rfl ?_)
    refine s_eff (o_store1 (c' := #[(.int .i64 ((takeS s 8).1)), (.int .i64 ((takeS ((takeS s 8).2.1) 8).1)), (.int .i64 0), (.int .i64 0), (.int .i64 0)]) ti3 rfl rfl rfl (by simp) rfl (hH44.front 0 rfl) fun w46 hH47 => ?_)
    refine s_op (o_assign (v := (S ((takeS ((takeS s 8).2.1) 8).2.1))) rfl ?_)
    refine s_nil ?_
    refine b_norm ?_
    refine t_norm (hK38 _ _ ?_)
    refine c_region ?_
    refine s_op (o_add (a := 1) (b := 1) (c := 2) rfl rfl (by decide) ?_)
    refine s_op (o_move (v := (.int .i64 2)) rfl ?_)
    refine s_nil ?_
    refine t_norm (u_round ?_)
    refine wp_seq_k fun K48 hK48 => ?_
    refine c_region ?_
    refine s_op (o_lss (a := 2) (b := ((5 : Nat) : Int)) rfl rfl ?_)
    refine s_nil ?_
    refine t_norm (hK48 _ _ ?_)
    refine wp_seq_k fun K49 hK49 => ?_
    refine c_true rfl rfl ?_
    refine wp_skip ?_
    refine t_norm (hK49 _ _ ?_)
    refine wp_seq_k fun K50 hK50 => ?_
    refine wp_block ?_
    refine wp_seq_k fun K51 hK51 => ?_
    refine c_region ?_
    refine s_op (o_index1 Tryz.underlying68 ti67 rfl (sl_lit (f := (fpV b15)) (l := [0, 1, 2, 3, 4]) (g := (0, 0)) (T := 67) rfl rfl (by simp)) rfl (by omega) (show [0, 1, 2, 3, 4][((2 : Int)).toNat]? = some 2 from rfl) fun b52 o53 hc54 => ?_)
    refine s_op (o_load1 (v := (.pointer (some ⟨b15, 2, none⟩))) Tryz.underlying67 rfl rfl hH47 (seg_sub 1 rfl) hc54 ?_)
    refine s_op (o_assign (v := (.pointer (some ⟨b15, 2, none⟩))) rfl ?_)
    refine s_nil ?_
    refine t_norm (hK51 _ _ ?_)
    refine c_region ?_
    refine s_op (o_move (v := (.pointer (some ⟨b15, 2, none⟩))) rfl ?_)
    refine s_op (o_move (v := (S ((takeS ((takeS s 8).2.1) 8).2.1))) rfl ?_)
    refine s_op (o_callf (vs := #[(S ((takeS ((takeS s 8).2.1) 8).2.1)), (.int .i64 8)]) ca34 rfl (args2 rfl rfl) (take_c hH47.all 8 ((takeS ((takeS s 8).2.1) 8).2.1) (by omega)) ?_)
    rintro _ w57 ⟨rfl, hX55⟩
    refine ⟨_, rfl, ?_⟩
    have hH56 := hX55.of_all
    refine s_op (o_move (v := (.tuple #[(.int .i64 ((takeS ((takeS ((takeS s 8).2.1) 8).2.1) 8).1)), (S ((takeS ((takeS ((takeS s 8).2.1) 8).2.1) 8).2.1)), (.bool ((takeS ((takeS ((takeS s 8).2.1) 8).2.1) 8).2.2))])) rfl ?_)
    refine s_op (o_extract (v := (.int .i64 ((takeS ((takeS ((takeS s 8).2.1) 8).2.1) 8).1))) rfl rfl ?_)
    refine s_op (o_extract (v := (S ((takeS ((takeS ((takeS s 8).2.1) 8).2.1) 8).2.1))) rfl rfl ?_)
    refine s_op (o_extract (v := (.bool ((takeS ((takeS ((takeS s 8).2.1) 8).2.1) 8).2.2))) rfl rfl ?_)
    refine s_op (o_nilCheck rfl ?_)
    refine s_eff (o_store1 (c' := #[(.int .i64 ((takeS s 8).1)), (.int .i64 ((takeS ((takeS s 8).2.1) 8).1)), (.int .i64 ((takeS ((takeS ((takeS s 8).2.1) 8).2.1) 8).1)), (.int .i64 0), (.int .i64 0)]) ti3 rfl rfl rfl (by simp) rfl (hH56.front 0 rfl) fun w58 hH59 => ?_)
    refine s_op (o_assign (v := (S ((takeS ((takeS ((takeS s 8).2.1) 8).2.1) 8).2.1))) rfl ?_)
    refine s_nil ?_
    refine b_norm ?_
    refine t_norm (hK50 _ _ ?_)
    refine c_region ?_
    refine s_op (o_add (a := 2) (b := 1) (c := 3) rfl rfl (by decide) ?_)
    refine s_op (o_move (v := (.int .i64 3)) rfl ?_)
    refine s_nil ?_
    refine t_norm (u_round ?_)
    refine wp_seq_k fun K60 hK60 => ?_
    refine c_region ?_
    refine s_op (o_lss (a := 3) (b := ((5 : Nat) : Int)) rfl rfl ?_)
    refine s_nil ?_
    refine t_norm (hK60 _ _ ?_)
    refine wp_seq_k fun K61 hK61 => ?_
    refine c_true rfl rfl ?_
    refine wp_skip ?_
    refine t_norm (hK61 _ _ ?_)
    refine wp_seq_k fun K62 hK62 => ?_
    refine wp_block ?_
    refine wp_seq_k fun K63 hK63 => ?_
    refine c_region ?_
    refine s_op (o_index1 Tryz.underlying68 ti67 rfl (sl_lit (f := (fpV b15)) (l := [0, 1, 2, 3, 4]) (g := (0, 0)) (T := 67) rfl rfl (by simp)) rfl (by omega) (show [0, 1, 2, 3, 4][((3 : Int)).toNat]? = some 3 from rfl) fun b64 o65 hc66 => ?_)
    refine s_op (o_load1 (v := (.pointer (some ⟨b15, 3, none⟩))) Tryz.underlying67 rfl rfl hH59 (seg_sub 1 rfl) hc66 ?_)
    refine s_op (o_assign (v := (.pointer (some ⟨b15, 3, none⟩))) rfl ?_)
    refine s_nil ?_
    refine t_norm (hK63 _ _ ?_)
    refine c_region ?_
    refine s_op (o_move (v := (.pointer (some ⟨b15, 3, none⟩))) rfl ?_)
    refine s_op (o_move (v := (S ((takeS ((takeS ((takeS s 8).2.1) 8).2.1) 8).2.1))) rfl ?_)
    refine s_op (o_callf (vs := #[(S ((takeS ((takeS ((takeS s 8).2.1) 8).2.1) 8).2.1)), (.int .i64 8)]) ca34 rfl (args2 rfl rfl) (take_c hH59.all 8 ((takeS ((takeS ((takeS s 8).2.1) 8).2.1) 8).2.1) (by omega)) ?_)
    rintro _ w69 ⟨rfl, hX67⟩
    refine ⟨_, rfl, ?_⟩
    have hH68 := hX67.of_all
    refine s_op (o_move (v := (.tuple #[(.int .i64 ((takeS ((takeS ((takeS ((takeS s 8).2.1) 8).2.1) 8).2.1) 8).1)), (S ((takeS ((takeS ((takeS ((takeS s 8).2.1) 8).2.1) 8).2.1) 8).2.1)), (.bool ((takeS ((takeS ((takeS ((takeS s 8).2.1) 8).2.1) 8).2.1) 8).2.2))])) rfl ?_)
    refine s_op (o_extract (v := (.int .i64 ((takeS ((takeS ((takeS ((takeS s 8).2.1) 8).2.1) 8).2.1) 8).1))) rfl rfl ?_)
    refine s_op (o_extract (v := (S ((takeS ((takeS ((takeS ((takeS s 8).2.1) 8).2.1) 8).2.1) 8).2.1))) rfl rfl ?_)
    refine s_op (o_extract (v := (.bool ((takeS ((takeS ((takeS ((takeS s 8).2.1) 8).2.1) 8).2.1) 8).2.2))) rfl rfl ?_)
    refine s_op (o_nilCheck rfl ?_)
    refine s_eff (o_store1 (c' := #[(.int .i64 ((takeS s 8).1)), (.int .i64 ((takeS ((takeS s 8).2.1) 8).1)), (.int .i64 ((takeS ((takeS ((takeS s 8).2.1) 8).2.1) 8).1)), (.int .i64 ((takeS ((takeS ((takeS ((takeS s 8).2.1) 8).2.1) 8).2.1) 8).1)), (.int .i64 0)]) ti3 rfl rfl rfl (by simp) rfl (hH68.front 0 rfl) fun w70 hH71 => ?_)
    refine s_op (o_assign (v := (S ((takeS ((takeS ((takeS ((takeS s 8).2.1) 8).2.1) 8).2.1) 8).2.1))) rfl ?_)
    refine s_nil ?_
    refine b_norm ?_
    refine t_norm (hK62 _ _ ?_)
    refine c_region ?_
    refine s_op (o_add (a := 3) (b := 1) (c := 4) rfl rfl (by decide) ?_)
    refine s_op (o_move (v := (.int .i64 4)) rfl ?_)
    refine s_nil ?_
    refine t_norm (u_round ?_)
    refine wp_seq_k fun K72 hK72 => ?_
    refine c_region ?_
    refine s_op (o_lss (a := 4) (b := ((5 : Nat) : Int)) rfl rfl ?_)
    refine s_nil ?_
    refine t_norm (hK72 _ _ ?_)
    refine wp_seq_k fun K73 hK73 => ?_
    refine c_true rfl rfl ?_
    refine wp_skip ?_
    refine t_norm (hK73 _ _ ?_)
    refine wp_seq_k fun K74 hK74 => ?_
    refine wp_block ?_
    refine wp_seq_k fun K75 hK75 => ?_
    refine c_region ?_
    refine s_op (o_index1 Tryz.underlying68 ti67 rfl (sl_lit (f := (fpV b15)) (l := [0, 1, 2, 3, 4]) (g := (0, 0)) (T := 67) rfl rfl (by simp)) rfl (by omega) (show [0, 1, 2, 3, 4][((4 : Int)).toNat]? = some 4 from rfl) fun b76 o77 hc78 => ?_)
    refine s_op (o_load1 (v := (.pointer (some ⟨b15, 4, none⟩))) Tryz.underlying67 rfl rfl hH71 (seg_sub 1 rfl) hc78 ?_)
    refine s_op (o_assign (v := (.pointer (some ⟨b15, 4, none⟩))) rfl ?_)
    refine s_nil ?_
    refine t_norm (hK75 _ _ ?_)
    refine c_region ?_
    refine s_op (o_move (v := (.pointer (some ⟨b15, 4, none⟩))) rfl ?_)
    refine s_op (o_move (v := (S ((takeS ((takeS ((takeS ((takeS s 8).2.1) 8).2.1) 8).2.1) 8).2.1))) rfl ?_)
    refine s_op (o_callf (vs := #[(S ((takeS ((takeS ((takeS ((takeS s 8).2.1) 8).2.1) 8).2.1) 8).2.1)), (.int .i64 8)]) ca34 rfl (args2 rfl rfl) (take_c hH71.all 8 ((takeS ((takeS ((takeS ((takeS s 8).2.1) 8).2.1) 8).2.1) 8).2.1) (by omega)) ?_)
    rintro _ w81 ⟨rfl, hX79⟩
    refine ⟨_, rfl, ?_⟩
    have hH80 := hX79.of_all
    refine s_op (o_move (v := (.tuple #[(.int .i64 ((takeS ((takeS ((takeS ((takeS ((takeS s 8).2.1) 8).2.1) 8).2.1) 8).2.1) 8).1)), (S ((takeS ((takeS ((takeS ((takeS ((takeS s 8).2.1) 8).2.1) 8).2.1) 8).2.1) 8).2.1)), (.bool ((takeS ((takeS ((takeS ((takeS ((takeS s 8).2.1) 8).2.1) 8).2.1) 8).2.1) 8).2.2))])) rfl ?_)
    refine s_op (o_extract (v := (.int .i64 ((takeS ((takeS ((takeS ((takeS ((takeS s 8).2.1) 8).2.1) 8).2.1) 8).2.1) 8).1))) rfl rfl ?_)
    refine s_op (o_extract (v := (S ((takeS ((takeS ((takeS ((takeS ((takeS s 8).2.1) 8).2.1) 8).2.1) 8).2.1) 8).2.1))) rfl rfl ?_)
    refine s_op (o_extract (v := (.bool ((takeS ((takeS ((takeS ((takeS ((takeS s 8).2.1) 8).2.1) 8).2.1) 8).2.1) 8).2.2))) rfl rfl ?_)
    refine s_op (o_nilCheck rfl ?_)
    refine s_eff (o_store1 (c' := #[(.int .i64 ((takeS s 8).1)), (.int .i64 ((takeS ((takeS s 8).2.1) 8).1)), (.int .i64 ((takeS ((takeS ((takeS s 8).2.1) 8).2.1) 8).1)), (.int .i64 ((takeS ((takeS ((takeS ((takeS s 8).2.1) 8).2.1) 8).2.1) 8).1)), (.int .i64 ((takeS ((takeS ((takeS ((takeS ((takeS s 8).2.1) 8).2.1) 8).2.1) 8).2.1) 8).1))]) ti3 rfl rfl rfl (by simp) rfl (hH80.front 0 rfl) fun w82 hH83 => ?_)
    refine s_op (o_assign (v := (S ((takeS ((takeS ((takeS ((takeS ((takeS s 8).2.1) 8).2.1) 8).2.1) 8).2.1) 8).2.1))) rfl ?_)
    refine s_nil ?_
    refine b_norm ?_
    refine t_norm (hK74 _ _ ?_)
    refine c_region ?_
    refine s_op (o_add (a := 4) (b := 1) (c := 5) rfl rfl (by decide) ?_)
    refine s_op (o_move (v := (.int .i64 5)) rfl ?_)
    refine s_nil ?_
    refine t_norm (u_round ?_)
    refine wp_seq_k fun K84 hK84 => ?_
    refine c_region ?_
    refine s_op (o_lss (a := 5) (b := ((5 : Nat) : Int)) rfl rfl ?_)
    refine s_nil ?_
    refine t_norm (hK84 _ _ ?_)
    refine wp_seq_k fun K85 hK85 => ?_
    refine c_false rfl rfl ?_
    refine wp_exit ?_
    refine t_exit (t_exit (x_in (?_)))
    refine t_norm (hK19 _ _ ?_)
    refine wp_seq_k fun K86 hK86 => ?_
    refine wp_seq_k fun K87 hK87 => ?_
    refine c_region ?_
    refine s_op (o_loadN (cs := [(.int .i64 ((takeS s 8).1)), (.int .i64 ((takeS ((takeS s 8).2.1) 8).1)), (.int .i64 ((takeS ((takeS ((takeS s 8).2.1) 8).2.1) 8).1)), (.int .i64 ((takeS ((takeS ((takeS ((takeS s 8).2.1) 8).2.1) 8).2.1) 8).1)), (.int .i64 ((takeS ((takeS ((takeS ((takeS ((takeS s 8).2.1) 8).2.1) 8).2.1) 8).2.1) 8).1))]) Tryz.underlying27 rfl ti27 rfl hH83 (seg_sub 0 rfl) (CellsAt.one rfl) ?_)
    refine s_op (o_callf (vs := #[(.agg #[(.int .i64 ((takeS s 8).1)), (.int .i64 ((takeS ((takeS s 8).2.1) 8).1)), (.int .i64 ((takeS ((takeS ((takeS s 8).2.1) 8).2.1) 8).1)), (.int .i64 ((takeS ((takeS ((takeS ((takeS s 8).2.1) 8).2.1) 8).2.1) 8).1)), (.int .i64 ((takeS ((takeS ((takeS ((takeS ((takeS s 8).2.1) 8).2.1) 8).2.1) 8).2.1) 8).1))])]) ca14 rfl (args1 rfl) (hlaid_c (h := (Hd.mk ((takeS s 8).1) ((takeS ((takeS s 8).2.1) 8).1) ((takeS ((takeS ((takeS s 8).2.1) 8).2.1) 8).1) ((takeS ((takeS ((takeS ((takeS s 8).2.1) 8).2.1) 8).2.1) 8).1) ((takeS ((takeS ((takeS ((takeS ((takeS s 8).2.1) 8).2.1) 8).2.1) 8).2.1) 8).1))) hH83.all (hg.mono (seg_sub 3 rfl))) ?_)
    rintro _ w90 ⟨rfl, hX88⟩
    refine ⟨_, rfl, ?_⟩
    have hH89 := hX88.of_all
    refine s_op (o_move (v := (S s)) rfl ?_)
    refine s_op (o_sneq (a := (hdL (Hd.mk ((takeS s 8).1) ((takeS ((takeS s 8).2.1) 8).1) ((takeS ((takeS ((takeS s 8).2.1) 8).2.1) 8).1) ((takeS ((takeS ((takeS ((takeS s 8).2.1) 8).2.1) 8).2.1) 8).1) ((takeS ((takeS ((takeS ((takeS ((takeS s 8).2.1) 8).2.1) 8).2.1) 8).2.1) 8).1)))) (b := s) rfl rfl ?_)
    refine s_nil ?_
    refine t_norm (hK87 _ _ ?_)
    refine c_cond rfl (fun h91 => ?_) (fun h91 => ?_)
    · -- (hdL (Hd.mk ((takeS s 8).1) ((takeS ((takeS s 8).2.1) 8).1) ((takeS ((takeS ((takeS s 8).2.1) 8).2.1) 8).1) ((takeS ((takeS ((takeS ((takeS s 8).2.1) 8).2.1) 8).2.1) 8).1) ((takeS ((takeS ((takeS ((takeS ((takeS s 8).2.1) 8).2.1) 8).2.1) 8).2.1) 8).1))) ≠ s
      refine wp_seq_k fun K92 hK92 => ?_
      refine c_region ?_
      refine s_op (o_sight (v := (.agg #[(.int .i64 0), (.int .i64 0), (.int .i64 0), (.int .i64 0), (.int .i64 0)])) (fun _ => by kernel_rfl) ?_)
      refine s_eff (o_storeN (vs := [(.int .i64 0), (.int .i64 0), (.int .i64 0), (.int .i64 0), (.int .i64 0)]) (c' := #[(.int .i64 0), (.int .i64 0), (.int .i64 0), (.int .i64 0), (.int .i64 0)]) ti27 rfl rfl rfl rfl (by intro u hu; simp only [List.mem_cons, List.not_mem_nil, or_false] at hu; rcases hu with rfl | rfl | rfl | rfl | rfl <;> first | rfl) (by simp) (by kernel_rfl) (hH89.front 2 rfl) fun w93 hH94 => ?_)
      refine s_op (o_assign (v := (.bool false)) rfl ?_)
      refine s_nil ?_
      refine t_norm (hK92 _ _ ?_)
      refine wp_ret ?_
      refine t_ret (c_retC2 Tryz.results12 rfl (run_loadVarN (cs := [(.int .i64 0), (.int .i64 0), (.int .i64 0), (.int .i64 0), (.int .i64 0)]) Tryz.underlying27 rfl ti27 hH94 (seg_sub 0 rfl) (CellsAt.one rfl)) (x := (.bool false)) rfl ?_)
      have hE_ := hdP_no (s := s) (.inr h91)
      have q95 : (hdP s).1 = (Hd.mk 0 0 0 0 0) := by exact (congrArg Prod.fst hE_).trans rfl
      have q96 : (hdP s).2 = false := by exact (congrArg Prod.snd hE_).trans rfl
      have hH97 : Has E w93 [R] := (hH94.front 3 rfl).first 1 rfl
      exact ⟨by rw [q95]; rw [q96], hH97⟩
    · -- not: (hdL (Hd.mk ((takeS s 8).1) ((takeS ((takeS s 8).2.1) 8).1) ((takeS ((takeS ((takeS s 8).2.1) 8).2.1) 8).1) ((takeS ((takeS ((takeS ((takeS s 8).2.1) 8).2.1) 8).2.1) 8).1) ((takeS ((takeS ((takeS ((takeS ((takeS s 8).2.1) 8).2.1) 8).2.1) 8).2.1) 8).1))) ≠ s
      refine wp_skip ?_
      refine t_norm (hK86 _ _ ?_)
      refine wp_seq_k fun K98 hK98 => ?_
      refine c_region ?_
      refine s_op (o_loadN (cs := [(.int .i64 ((takeS s 8).1)), (.int .i64 ((takeS ((takeS s 8).2.1) 8).1)), (.int .i64 ((takeS ((takeS ((takeS s 8).2.1) 8).2.1) 8).1)), (.int .i64 ((takeS ((takeS ((takeS ((takeS s 8).2.1) 8).2.1) 8).2.1) 8).1)), (.int .i64 ((takeS ((takeS ((takeS ((takeS ((takeS s 8).2.1) 8).2.1) 8).2.1) 8).2.1) 8).1))]) Tryz.underlying27 rfl ti27 rfl hH89 (seg_sub 0 rfl) (CellsAt.one rfl) ?_)
      refine s_eff (o_storeN (vs := [(.int .i64 ((takeS s 8).1)), (.int .i64 ((takeS ((takeS s 8).2.1) 8).1)), (.int .i64 ((takeS ((takeS ((takeS s 8).2.1) 8).2.1) 8).1)), (.int .i64 ((takeS ((takeS ((takeS ((takeS s 8).2.1) 8).2.1) 8).2.1) 8).1)), (.int .i64 ((takeS ((takeS ((takeS ((takeS ((takeS s 8).2.1) 8).2.1) 8).2.1) 8).2.1) 8).1))]) (c' := #[(.int .i64 ((takeS s 8).1)), (.int .i64 ((takeS ((takeS s 8).2.1) 8).1)), (.int .i64 ((takeS ((takeS ((takeS s 8).2.1) 8).2.1) 8).1)), (.int .i64 ((takeS ((takeS ((takeS ((takeS s 8).2.1) 8).2.1) 8).2.1) 8).1)), (.int .i64 ((takeS ((takeS ((takeS ((takeS ((takeS s 8).2.1) 8).2.1) 8).2.1) 8).2.1) 8).1))]) ti27 rfl rfl rfl rfl (by intro u hu; simp only [List.mem_cons, List.not_mem_nil, or_false] at hu; rcases hu with rfl | rfl | rfl | rfl | rfl <;> first | rfl) (by simp) (by kernel_rfl) (hH89.front 2 rfl) fun w99 hH100 => ?_)
      refine s_op (o_assign (v := (.bool true)) rfl ?_)
      refine s_nil ?_
      refine t_norm (hK98 _ _ ?_)
      refine wp_ret ?_
      refine c_retC2 Tryz.results12 rfl (run_loadVarN (cs := [(.int .i64 ((takeS s 8).1)), (.int .i64 ((takeS ((takeS s 8).2.1) 8).1)), (.int .i64 ((takeS ((takeS ((takeS s 8).2.1) 8).2.1) 8).1)), (.int .i64 ((takeS ((takeS ((takeS ((takeS s 8).2.1) 8).2.1) 8).2.1) 8).1)), (.int .i64 ((takeS ((takeS ((takeS ((takeS ((takeS s 8).2.1) 8).2.1) 8).2.1) 8).2.1) 8).1))]) Tryz.underlying27 rfl ti27 hH100 (seg_sub 0 rfl) (CellsAt.one rfl)) (x := (.bool true)) rfl ?_
      have hE_ := hdP_yes (s := s) (by omega) (Classical.not_not.1 h91)
      have q101 : (hdP s).1 = (Hd.mk ((takeS s 8).1) ((takeS ((takeS s 8).2.1) 8).1) ((takeS ((takeS ((takeS s 8).2.1) 8).2.1) 8).1) ((takeS ((takeS ((takeS ((takeS s 8).2.1) 8).2.1) 8).2.1) 8).1) ((takeS ((takeS ((takeS ((takeS ((takeS s 8).2.1) 8).2.1) 8).2.1) 8).2.1) 8).1)) := by exact (congrArg Prod.fst hE_).trans rfl
      have q102 : (hdP s).2 = true := by exact (congrArg Prod.snd hE_).trans rfl
      have hH103 : Has E w99 [R] := (hH100.front 3 rfl).first 1 rfl
      exact ⟨by rw [q101]; rw [q102], hH103⟩
end Go.Q
namespace Go.Q
open Go.Proofs
set_option linter.unusedVariables false
set_option maxRecDepth 100000
attribute [local irreducible] wpList OK Code.wp
set_option maxHeartbeats 4000000 in
theorem sectors_nil {E w : World} {R : List Hp} (hH : Has E w [R]) :
    Calls Tryz.prog 68 #[(.pointer none)] w fun e w' => e = .returned (.int .i64 0) ∧ Has E w' [R] := by
  refine c_enter (args := [(.pointer none)]) Tryz.func68 rfl Tryz.ntmps68 (by simp) ?_
  refine wp_seq_k fun K1 hK1 => ?_
  refine c_region ?_
  refine s_op (o_assign (v := (.int .i64 0)) rfl ?_)
  refine s_nil ?_
  refine t_norm (hK1 _ _ ?_)
  refine wp_seq_k fun K2 hK2 => ?_
  refine wp_seq_k fun K3 hK3 => ?_
  refine c_region ?_
  refine s_op (o_move (v := (.pointer none)) rfl ?_)
  refine s_op (o_pnil (p := none) Tryz.underlying34 rfl rfl ?_)
  refine s_nil ?_
  refine t_norm (hK3 _ _ ?_)
  refine c_true rfl rfl ?_
  refine wp_seq_k fun K4 hK4 => ?_
  refine c_region ?_
  refine s_op (o_assign (v := (.int .i64 0)) rfl ?_)
  refine s_nil ?_
  refine t_norm (hK4 _ _ ?_)
  refine wp_ret ?_
  refine t_ret (c_ret1 Tryz.results68  (v := (.int .i64 0)) rfl ?_)
  exact ⟨rfl, hH⟩
set_option maxHeartbeats 4000000 in
theorem don_nil {E w : World} {R : List Hp} (hH : Has E w [R]) :
    Calls Tryz.prog 44 #[(.pointer none)] w fun e w' => e = .returned (.bool false) ∧ Has E w' [R] := by
  refine c_enter (args := [(.pointer none)]) Tryz.func44 rfl Tryz.ntmps44 (by simp) ?_
  refine wp_seq_k fun K1 hK1 => ?_
  refine c_region ?_
  refine s_op (o_assign (v := (.bool false)) rfl ?_)
  refine s_nil ?_
  refine t_norm (hK1 _ _ ?_)
  refine wp_seq_k fun K2 hK2 => ?_
  refine c_region ?_
  refine s_op (o_move (v := (.pointer none)) rfl ?_)
  refine s_op (o_pnnil (p := none) Tryz.underlying34 rfl rfl ?_)
  refine s_op (o_move (v := (.bool false)) rfl ?_)
  refine s_off (b' := false) 5 rfl rfl rfl ?_
  refine s_off (b' := false) 5 rfl rfl rfl ?_
  refine s_off (b' := false) 5 rfl rfl rfl ?_
  refine s_off (b' := false) 5 rfl rfl rfl ?_
  refine s_off (b' := false) 5 rfl rfl rfl ?_
  refine s_op (o_pick_f (u := (.bool false)) rfl rfl ?_)
  refine s_op (o_assign (v := (.bool false)) rfl ?_)
  refine s_nil ?_
  refine t_norm (hK2 _ _ ?_)
  refine wp_ret ?_
  refine c_ret1 Tryz.results44  (v := (.bool false)) rfl ?_
  exact ⟨rfl, hH⟩
set_option maxHeartbeats 4000000 in
theorem there_nil {E w : World} {R : List Hp} (hH : Has E w [R]) (x : Int) :
    Calls Tryz.prog 45 #[(.pointer none), (.int .i64 x)] w fun e w' => e = .returned (.int .i64 1) ∧ Has E w' [R] := by
  refine c_enter (args := [(.pointer none), (.int .i64 x)]) Tryz.func45 rfl Tryz.ntmps45 (by simp) ?_
  refine wp_seq_k fun K1 hK1 => ?_
  refine c_region ?_
  refine s_op (o_assign (v := (.int .i64 0)) rfl ?_)
  refine s_nil ?_
  refine t_norm (hK1 _ _ ?_)
  refine wp_seq_k fun K2 hK2 => ?_
  refine wp_block ?_
  refine wp_seq_k fun K3 hK3 => ?_
  refine c_region ?_
  refine s_op (o_move (v := (.int .i64 x)) rfl ?_)
  refine s_op (o_lss (a := x) (b := 0) rfl rfl ?_)
  refine s_op (o_move (v := (.bool (decide (x < 0)))) rfl ?_)
  by_cases h4 : x < 0
  · -- x < 0
    refine s_off (b' := true) 8 rfl (congrArg Value.bool (decide_eq_true h4)) rfl ?_
    refine s_off (b' := true) 8 rfl (congrArg Value.bool (decide_eq_true h4)) rfl ?_
    refine s_off (b' := true) 8 rfl (congrArg Value.bool (decide_eq_true h4)) rfl ?_
    refine s_off (b' := true) 8 rfl (congrArg Value.bool (decide_eq_true h4)) rfl ?_
    refine s_off (b' := true) 8 rfl (congrArg Value.bool (decide_eq_true h4)) rfl ?_
    refine s_op (o_pick_t (u := (.bool true)) ((rfl : _ = _).trans (congrArg Value.bool (decide_eq_true h4))) rfl ?_)
    refine s_op (o_assign (v := (.bool true)) rfl ?_)
    refine s_nil ?_
    refine t_norm (hK3 _ _ ?_)
    refine c_true rfl rfl ?_
    refine wp_seq_k fun K5 hK5 => ?_
    refine c_region ?_
    refine s_op (o_assign (v := (.int .i64 1)) rfl ?_)
    refine s_nil ?_
    refine t_norm (hK5 _ _ ?_)
    refine wp_ret ?_
    refine b_ret (t_ret (c_ret1 Tryz.results45  (v := (.int .i64 1)) rfl ?_))
    exact ⟨rfl, hH⟩
  · -- not: x < 0
    refine s_on 8 rfl (congrArg Value.bool (decide_eq_false h4)) (o_move (v := (.int .i64 x)) rfl ?_)
    refine s_on 8 rfl (congrArg Value.bool (decide_eq_false h4)) (o_move (v := (.pointer none)) rfl ?_)
    refine s_on 8 rfl (congrArg Value.bool (decide_eq_false h4)) (o_callf (vs := #[(.pointer none)]) ca68 rfl (args1 rfl) (sectors_nil hH.all) ?_)
    rintro _ w8 ⟨rfl, hX6⟩
    refine ⟨_, rfl, ?_⟩
    have hH7 := hX6.of_all
    refine s_on 8 rfl (congrArg Value.bool (decide_eq_false h4)) (o_sub (a := (0 : Int)) (b := 1) rfl rfl (w64 (by omega) (by omega)) ?_)
    refine s_on 8 rfl (congrArg Value.bool (decide_eq_false h4)) (o_geq (a := x) (b := (0 : Int) - 1) rfl rfl ?_)
    refine s_op (o_pick_f (u := (.bool (decide ((0 : Int) - 1 ≤ x)))) ((rfl : _ = _).trans (congrArg Value.bool (decide_eq_false h4))) rfl ?_)
    refine s_op (o_assign (v := (.bool (decide ((0 : Int) - 1 ≤ x)))) rfl ?_)
    refine s_nil ?_
    refine t_norm (hK3 _ _ ?_)
    refine c_cond rfl (fun h9 => ?_) (fun h9 => ?_)
    · -- (0 : Int) - 1 ≤ x
      refine wp_seq_k fun K10 hK10 => ?_
      refine c_region ?_
      refine s_op (o_assign (v := (.int .i64 1)) rfl ?_)
      refine s_nil ?_
      refine t_norm (hK10 _ _ ?_)
      refine wp_ret ?_
      refine b_ret (t_ret (c_ret1 Tryz.results45  (v := (.int .i64 1)) rfl ?_))
      exact ⟨rfl, hH7⟩
    · -- not: (0 : Int) - 1 ≤ x
      refine wp_seq_k fun K11 hK11 => ?_
      refine c_region ?_
      refine s_op (o_move (v := (.pointer none)) rfl ?_)
      refine s_op (o_callf (vs := #[(.pointer none)]) ca44 rfl (args1 rfl) (don_nil hH7.all) ?_)
      rintro _ w14 ⟨rfl, hX12⟩
      refine ⟨_, rfl, ?_⟩
      have hH13 := hX12.of_all
      refine s_op (o_not rfl ?_)
      refine s_op (o_assign (v := (.bool true)) rfl ?_)
      refine s_nil ?_
      refine t_norm (hK11 _ _ ?_)
      refine c_true rfl rfl ?_
      refine wp_seq_k fun K15 hK15 => ?_
      refine c_region ?_
      refine s_op (o_assign (v := (.int .i64 6)) rfl ?_)
      refine s_nil ?_
      refine t_norm (hK15 _ _ ?_)
      refine wp_ret ?_
      refine b_ret (t_ret (c_ret1 Tryz.results45  (v := (.int .i64 6)) rfl ?_))
      exfalso; omega
set_option maxHeartbeats 4000000 in
theorem there_c {E w : World} {R sg : List Hp} {pb db : Nat} {p : Pw} {la : List Bs} (hH : Has E w [sg, [Hp.one pb (.cells #[(.bool p.off), (.bool p.armed), (.int .i64 p.left), (.int .i64 p.uses)] 78 (0, 0))], R]) (hd : DevAt pb sg db la []) (x : Int) :
    Calls Tryz.prog 45 #[(.pointer (some ⟨db, 0, none⟩)), (.int .i64 x)] w fun e w' => e = .returned (.int .i64 (thE p la.length x)) ∧ Has E w' [sg, [Hp.one pb (.cells #[(.bool p.off), (.bool p.armed), (.int .i64 p.left), (.int .i64 p.uses)] 78 (0, 0))], R] := by
  have hln_ : la.length ≤ 9223372036854775807 := by obtain ⟨_, _, _, _, _, _, h_, _⟩ := hd; exact h_.sl.le
  refine c_enter (args := [(.pointer (some ⟨db, 0, none⟩)), (.int .i64 x)]) Tryz.func45 rfl Tryz.ntmps45 (by simp) ?_
  refine wp_seq_k fun K1 hK1 => ?_
  refine c_region ?_
  refine s_op (o_assign (v := (.int .i64 0)) rfl ?_)
  refine s_nil ?_
  refine t_norm (hK1 _ _ ?_)
  refine wp_seq_k fun K2 hK2 => ?_
  refine wp_block ?_
  refine wp_seq_k fun K3 hK3 => ?_
  refine c_region ?_
  refine s_op (o_move (v := (.int .i64 x)) rfl ?_)
  refine s_op (o_lss (a := x) (b := 0) rfl rfl ?_)
  refine s_op (o_move (v := (.bool (decide (x < 0)))) rfl ?_)
  by_cases h4 : x < 0
  · -- x < 0
    refine s_off (b' := true) 8 rfl (congrArg Value.bool (decide_eq_true h4)) rfl ?_
    refine s_off (b' := true) 8 rfl (congrArg Value.bool (decide_eq_true h4)) rfl ?_
    refine s_off (b' := true) 8 rfl (congrArg Value.bool (decide_eq_true h4)) rfl ?_
    refine s_off (b' := true) 8 rfl (congrArg Value.bool (decide_eq_true h4)) rfl ?_
    refine s_off (b' := true) 8 rfl (congrArg Value.bool (decide_eq_true h4)) rfl ?_
    refine s_op (o_pick_t (u := (.bool true)) ((rfl : _ = _).trans (congrArg Value.bool (decide_eq_true h4))) rfl ?_)
    refine s_op (o_assign (v := (.bool true)) rfl ?_)
    refine s_nil ?_
    refine t_norm (hK3 _ _ ?_)
    refine c_true rfl rfl ?_
    refine wp_seq_k fun K5 hK5 => ?_
    refine c_region ?_
    refine s_op (o_assign (v := (.int .i64 1)) rfl ?_)
    refine s_nil ?_
    refine t_norm (hK5 _ _ ?_)
    refine wp_ret ?_
    refine b_ret (t_ret (c_ret1 Tryz.results45  (v := (.int .i64 1)) rfl ?_))
    exact ⟨by rw [thE_arg (by omega)], hH⟩
  · -- not: x < 0
    refine s_on 8 rfl (congrArg Value.bool (decide_eq_false h4)) (o_move (v := (.int .i64 x)) rfl ?_)
    refine s_on 8 rfl (congrArg Value.bool (decide_eq_false h4)) (o_move (v := (.pointer (some ⟨db, 0, none⟩))) rfl ?_)
    refine s_on 8 rfl (congrArg Value.bool (decide_eq_false h4)) (o_callf (vs := #[(.pointer (some ⟨db, 0, none⟩))]) ca68 rfl (args1 rfl) (sectors_d (p := p) (la := la) (lo := ([] : List (Int × Bs))) ((hH.front 1 rfl).front 1 rfl).all2 hd ) ?_)
    rintro _ w8 ⟨rfl, hX6⟩
    refine ⟨_, rfl, ?_⟩
    have hH7 : Has E w8 [sg, [Hp.one pb (.cells #[(.bool p.off), (.bool p.armed), (.int .i64 p.left), (.int .i64 p.uses)] 78 (0, 0))], R] := hX6.of_all2
    refine s_on 8 rfl (congrArg Value.bool (decide_eq_false h4)) (o_sub (a := ((la.length : Nat) : Int)) (b := 1) rfl rfl (w64 (by omega) (by omega)) ?_)
    refine s_on 8 rfl (congrArg Value.bool (decide_eq_false h4)) (o_geq (a := x) (b := ((la.length : Nat) : Int) - 1) rfl rfl ?_)
    refine s_op (o_pick_f (u := (.bool (decide (((la.length : Nat) : Int) - 1 ≤ x)))) ((rfl : _ = _).trans (congrArg Value.bool (decide_eq_false h4))) rfl ?_)
    refine s_op (o_assign (v := (.bool (decide (((la.length : Nat) : Int) - 1 ≤ x)))) rfl ?_)
    refine s_nil ?_
    refine t_norm (hK3 _ _ ?_)
    refine c_cond rfl (fun h9 => ?_) (fun h9 => ?_)
    · -- ((la.length : Nat) : Int) - 1 ≤ x
      refine wp_seq_k fun K10 hK10 => ?_
      refine c_region ?_
      refine s_op (o_assign (v := (.int .i64 1)) rfl ?_)
      refine s_nil ?_
      refine t_norm (hK10 _ _ ?_)
      refine wp_ret ?_
      refine b_ret (t_ret (c_ret1 Tryz.results45  (v := (.int .i64 1)) rfl ?_))
      exact ⟨by rw [thE_arg (by omega)], hH7⟩
    · -- not: ((la.length : Nat) : Int) - 1 ≤ x
      refine wp_seq_k fun K11 hK11 => ?_
      refine c_region ?_
      refine s_op (o_move (v := (.pointer (some ⟨db, 0, none⟩))) rfl ?_)
      refine s_op (o_callf (vs := #[(.pointer (some ⟨db, 0, none⟩))]) ca44 rfl (args1 rfl) (don_d (p := p) (la := la) (lo := ([] : List (Int × Bs))) ((hH7.front 1 rfl).front 1 rfl).all2 hd ) ?_)
      rintro _ w14 ⟨rfl, hX12⟩
      refine ⟨_, rfl, ?_⟩
      have hH13 : Has E w14 [sg, [Hp.one pb (.cells #[(.bool p.off), (.bool p.armed), (.int .i64 p.left), (.int .i64 p.uses)] 78 (0, 0))], R] := hX12.of_all2
      refine s_op (o_not rfl ?_)
      refine s_op (o_assign (v := (.bool (!(!p.off)))) rfl ?_)
      refine s_nil ?_
      refine t_norm (hK11 _ _ ?_)
      refine c_condb rfl (fun h15 => ?_) (fun h15 => ?_)
      · -- !(!p.off)
        have h15_n : (!p.off) = false := by simpa using h15
        have h15_n_n : p.off = true := by simpa using h15_n
        refine wp_seq_k fun K16 hK16 => ?_
        refine c_region ?_
        refine s_op (o_assign (v := (.int .i64 6)) rfl ?_)
        refine s_nil ?_
        refine t_norm (hK16 _ _ ?_)
        refine wp_ret ?_
        refine b_ret (t_ret (c_ret1 Tryz.results45  (v := (.int .i64 6)) rfl ?_))
        exact ⟨by rw [thE_off (by omega) (by omega) (by simpa using h15)], hH13⟩
      · -- not: !(!p.off)
        have h15_n : (!p.off) = true := by simpa using h15
        have h15_n_n : p.off = false := by simpa using h15_n
        refine wp_skip ?_
        refine b_norm ?_
        refine t_norm (hK2 _ _ ?_)
        refine wp_seq_k fun K17 hK17 => ?_
        refine c_region ?_
        refine s_op (o_assign (v := (.int .i64 0)) rfl ?_)
        refine s_nil ?_
        refine t_norm (hK17 _ _ ?_)
        refine wp_ret ?_
        refine c_ret1 Tryz.results45  (v := (.int .i64 0)) rfl ?_
        exact ⟨by rw [thE_ok (by omega) (by omega) (by simpa using h15)], hH13⟩
set_option maxHeartbeats 4000000 in
theorem hload_nil {E w : World} {R : List Hp} (hH : Has E w [R]) (x : Int) :
    Calls Tryz.prog 19 #[(.pointer none), (.int .i64 x)] w fun e w' => e = .returned (.tuple #[.agg #[(.int .i64 hdZ.seq), (.int .i64 hdZ.ep), (.int .i64 hdZ.cut), (.int .i64 hdZ.st), (.int .i64 hdZ.mrk)], .int .i64 1]) ∧ Has E w' [R] := by
  refine c_enter (args := [(.pointer none), (.int .i64 x)]) Tryz.func19 rfl Tryz.ntmps19 (by simp) ?_
  refine wp_seq_k fun K1 hK1 => ?_
  refine c_region ?_
  refine s_op (o_alloc (cs := #[(.int .i64 0), (.int .i64 0), (.int .i64 0), (.int .i64 0), (.int .i64 0)]) ti27 rfl hH fun b2 w3 hH4 => ?_)
  refine s_op (o_assign (v := (.int .i64 0)) rfl ?_)
  refine s_nil ?_
  refine t_norm (hK1 _ _ ?_)
  refine wp_seq_k fun K5 hK5 => ?_
  refine wp_seq_k fun K6 hK6 => ?_
  refine c_region ?_
  refine s_op (o_move (v := (.pointer none)) rfl ?_)
  refine s_op (o_move (v := (.int .i64 x)) rfl ?_)
  refine s_op (o_callf (vs := #[(.pointer none), (.int .i64 x)]) ca45 rfl (args2 rfl rfl) (there_nil hH4.all x) ?_)
  rintro _ w9 ⟨rfl, hX7⟩
  refine ⟨_, rfl, ?_⟩
  have hH8 := hX7.of_all
  refine s_op (o_assign (v := (.int .i64 (1 : Int))) rfl ?_)
  refine s_nil ?_
  refine t_norm (hK6 _ _ ?_)
  refine wp_seq_k fun K10 hK10 => ?_
  refine c_region ?_
  refine s_op (o_move (v := (.int .i64 (1 : Int))) rfl ?_)
  refine s_op (o_neq (a := (1 : Int)) (b := 0) rfl rfl ?_)
  refine s_nil ?_
  refine t_norm (hK10 _ _ ?_)
  refine c_cond rfl (fun h11 => ?_) (fun h11 => ?_)
  · -- (1 : Int) ≠ 0
    refine wp_seq_k fun K12 hK12 => ?_
    refine c_region ?_
    refine s_op (o_sight (v := (.agg #[(.int .i64 0), (.int .i64 0), (.int .i64 0), (.int .i64 0), (.int .i64 0)])) (fun _ => by kernel_rfl) ?_)
    refine s_op (o_move (v := (.int .i64 (1 : Int))) rfl ?_)
    refine s_eff (o_storeN (vs := [(.int .i64 0), (.int .i64 0), (.int .i64 0), (.int .i64 0), (.int .i64 0)]) (c' := #[(.int .i64 0), (.int .i64 0), (.int .i64 0), (.int .i64 0), (.int .i64 0)]) ti27 rfl rfl rfl rfl (by intro u hu; simp only [List.mem_cons, List.not_mem_nil, or_false] at hu; rcases hu with rfl | rfl | rfl | rfl | rfl <;> first | rfl) (by simp) (by kernel_rfl) (hH8.front 0 rfl) fun w13 hH14 => ?_)
    refine s_op (o_assign (v := (.int .i64 (1 : Int))) rfl ?_)
    refine s_nil ?_
    refine t_norm (hK12 _ _ ?_)
    refine wp_ret ?_
    refine t_ret (c_retC2 Tryz.results19 rfl (run_loadVarN (cs := [(.int .i64 0), (.int .i64 0), (.int .i64 0), (.int .i64 0), (.int .i64 0)]) Tryz.underlying27 rfl ti27 hH14 (seg_sub 0 rfl) (CellsAt.one rfl)) (x := (.int .i64 (1 : Int))) rfl ?_)
    have hH15 : Has E w13 [R] := (hH14.front 1 rfl).first 1 rfl
    exact ⟨rfl, hH15⟩
  · -- not: (1 : Int) ≠ 0
    exact absurd (by decide) h11
set_option maxHeartbeats 4000000 in
theorem hsave_nil {E w : World} {R : List Hp} (hH : Has E w [R]) (hg : CellsAt R 0 0 nibV) (x : Int) {h : Hd} :
    Calls Tryz.prog 26 #[(.pointer none), (.int .i64 x), (.agg #[(.int .i64 h.seq), (.int .i64 h.ep), (.int .i64 h.cut), (.int .i64 h.st), (.int .i64 h.mrk)])] w fun e w' => e = .returned (.tuple #[.agg #[(.int .i64 hdZ.seq), (.int .i64 hdZ.ep), (.int .i64 hdZ.cut), (.int .i64 hdZ.st), (.int .i64 hdZ.mrk)], .int .i64 1]) ∧ Has E w' [R] := by
  refine c_enter (args := [(.pointer none), (.int .i64 x), (.agg #[(.int .i64 h.seq), (.int .i64 h.ep), (.int .i64 h.cut), (.int .i64 h.st), (.int .i64 h.mrk)])]) Tryz.func26 rfl Tryz.ntmps26 (by simp) ?_
  refine wp_seq_k fun K1 hK1 => ?_
  refine c_region ?_
  refine s_op (o_box (cs := #[(.int .i64 h.seq), (.int .i64 h.ep), (.int .i64 h.cut), (.int .i64 h.st), (.int .i64 h.mrk)]) rfl rfl hH fun b2 w3 hH4 => ?_)
  refine s_op (o_alloc (cs := #[(.int .i64 0), (.int .i64 0), (.int .i64 0), (.int .i64 0), (.int .i64 0)]) ti27 rfl hH4 fun b5 w6 hH7 => ?_)
  refine s_op (o_assign (v := (.int .i64 0)) rfl ?_)
  refine s_nil ?_
  refine t_norm (hK1 _ _ ?_)
  refine wp_seq_k fun K8 hK8 => ?_
  refine wp_seq_k fun K9 hK9 => ?_
  refine c_region ?_
  refine s_op (o_fieldAddr (k := 0) (fun _ => by kernel_rfl) rfl ?_)
  refine s_op (o_load1 (v := (.int .i64 h.seq)) Tryz.underlying3 rfl rfl hH7 (seg_sub 1 rfl) (CellsAt.one rfl) ?_)
  refine s_op (o_lss (a := h.seq) (b := 0) rfl rfl ?_)
  refine s_op (o_move (v := (.bool (decide (h.seq < 0)))) rfl ?_)
  by_cases h10 : h.seq < 0
  · -- h.seq < 0
    refine s_off (b' := true) 14 rfl (congrArg Value.bool (decide_eq_true h10)) rfl ?_
    refine s_off (b' := true) 14 rfl (congrArg Value.bool (decide_eq_true h10)) rfl ?_
    refine s_off (b' := true) 14 rfl (congrArg Value.bool (decide_eq_true h10)) rfl ?_
    refine s_op (o_pick_t (u := (.bool true)) ((rfl : _ = _).trans (congrArg Value.bool (decide_eq_true h10))) rfl ?_)
    refine s_op (o_move (v := (.bool true)) rfl ?_)
    refine s_off (b' := true) 19 rfl rfl rfl ?_
    refine s_off (b' := true) 19 rfl rfl rfl ?_
    refine s_off (b' := true) 19 rfl rfl rfl ?_
    refine s_op (o_pick_t (u := (.bool true)) rfl rfl ?_)
    refine s_nil ?_
    refine t_norm (hK9 _ _ ?_)
    refine c_true rfl rfl ?_
    refine wp_seq_k fun K11 hK11 => ?_
    refine c_region ?_
    refine s_op (o_sight (v := (.agg #[(.int .i64 0), (.int .i64 0), (.int .i64 0), (.int .i64 0), (.int .i64 0)])) (fun _ => by kernel_rfl) ?_)
    refine s_eff (o_storeN (vs := [(.int .i64 0), (.int .i64 0), (.int .i64 0), (.int .i64 0), (.int .i64 0)]) (c' := #[(.int .i64 0), (.int .i64 0), (.int .i64 0), (.int .i64 0), (.int .i64 0)]) ti27 rfl rfl rfl rfl (by intro u hu; simp only [List.mem_cons, List.not_mem_nil, or_false] at hu; rcases hu with rfl | rfl | rfl | rfl | rfl <;> first | rfl) (by simp) (by kernel_rfl) (hH7.front 0 rfl) fun w12 hH13 => ?_)
    refine s_op (o_assign (v := (.int .i64 1)) rfl ?_)
    refine s_nil ?_
    refine t_norm (hK11 _ _ ?_)
    refine wp_ret ?_
    refine t_ret (c_retC2 Tryz.results26 rfl (run_loadVarN (cs := [(.int .i64 0), (.int .i64 0), (.int .i64 0), (.int .i64 0), (.int .i64 0)]) Tryz.underlying27 rfl ti27 hH13 (seg_sub 0 rfl) (CellsAt.one rfl)) (x := (.int .i64 1)) rfl ?_)
    have hH14 : Has E w12 [R] := (hH13.front 2 rfl).first 1 rfl
    exact ⟨rfl, hH14⟩
  · -- not: h.seq < 0
    refine s_on 14 rfl (congrArg Value.bool (decide_eq_false h10)) (o_fieldAddr (k := 0) (fun _ => by kernel_rfl) rfl ?_)
    refine s_on 14 rfl (congrArg Value.bool (decide_eq_false h10)) (o_load1 (v := (.int .i64 h.seq)) Tryz.underlying3 rfl rfl hH7 (seg_sub 1 rfl) (CellsAt.one rfl) ?_)
    refine s_on 14 rfl (congrArg Value.bool (decide_eq_false h10)) (o_geq (a := h.seq) (b := 4611686018427387903) rfl rfl ?_)
    refine s_op (o_pick_f (u := (.bool (decide (4611686018427387903 ≤ h.seq)))) ((rfl : _ = _).trans (congrArg Value.bool (decide_eq_false h10))) rfl ?_)
    refine s_op (o_move (v := (.bool (decide (4611686018427387903 ≤ h.seq)))) rfl ?_)
    by_cases h15 : 4611686018427387903 ≤ h.seq
    · -- 4611686018427387903 ≤ h.seq
      refine s_off (b' := true) 19 rfl (congrArg Value.bool (decide_eq_true h15)) rfl ?_
      refine s_off (b' := true) 19 rfl (congrArg Value.bool (decide_eq_true h15)) rfl ?_
      refine s_off (b' := true) 19 rfl (congrArg Value.bool (decide_eq_true h15)) rfl ?_
      refine s_op (o_pick_t (u := (.bool true)) ((rfl : _ = _).trans (congrArg Value.bool (decide_eq_true h15))) rfl ?_)
      refine s_nil ?_
      refine t_norm (hK9 _ _ ?_)
      refine c_true rfl rfl ?_
      refine wp_seq_k fun K16 hK16 => ?_
      refine c_region ?_
      refine s_op (o_sight (v := (.agg #[(.int .i64 0), (.int .i64 0), (.int .i64 0), (.int .i64 0), (.int .i64 0)])) (fun _ => by kernel_rfl) ?_)
      refine s_eff (o_storeN (vs := [(.int .i64 0), (.int .i64 0), (.int .i64 0), (.int .i64 0), (.int .i64 0)]) (c' := #[(.int .i64 0), (.int .i64 0), (.int .i64 0), (.int .i64 0), (.int .i64 0)]) ti27 rfl rfl rfl rfl (by intro u hu; simp only [List.mem_cons, List.not_mem_nil, or_false] at hu; rcases hu with rfl | rfl | rfl | rfl | rfl <;> first | rfl) (by simp) (by kernel_rfl) (hH7.front 0 rfl) fun w17 hH18 => ?_)
      refine s_op (o_assign (v := (.int .i64 1)) rfl ?_)
      refine s_nil ?_
      refine t_norm (hK16 _ _ ?_)
      refine wp_ret ?_
      refine t_ret (c_retC2 Tryz.results26 rfl (run_loadVarN (cs := [(.int .i64 0), (.int .i64 0), (.int .i64 0), (.int .i64 0), (.int .i64 0)]) Tryz.underlying27 rfl ti27 hH18 (seg_sub 0 rfl) (CellsAt.one rfl)) (x := (.int .i64 1)) rfl ?_)
      have hH19 : Has E w17 [R] := (hH18.front 2 rfl).first 1 rfl
      exact ⟨rfl, hH19⟩
    · -- not: 4611686018427387903 ≤ h.seq
      refine s_on 19 rfl (congrArg Value.bool (decide_eq_false h15)) (o_loadN (cs := [(.int .i64 h.seq), (.int .i64 h.ep), (.int .i64 h.cut), (.int .i64 h.st), (.int .i64 h.mrk)]) Tryz.underlying27 rfl ti27 rfl hH7 (seg_sub 1 rfl) (CellsAt.one rfl) ?_)
      refine s_on 19 rfl (congrArg Value.bool (decide_eq_false h15)) (o_callf (vs := #[(.agg #[(.int .i64 h.seq), (.int .i64 h.ep), (.int .i64 h.cut), (.int .i64 h.st), (.int .i64 h.mrk)])]) ca36 rfl (args1 rfl) (hright_c (h := h) hH7.all ) ?_)
      rintro _ w22 ⟨rfl, hX20⟩
      refine ⟨_, rfl, ?_⟩
      have hH21 := hX20.of_all
      refine s_on 19 rfl (congrArg Value.bool (decide_eq_false h15)) (o_not rfl ?_)
      refine s_op (o_pick_f (u := (.bool (!(hdR h)))) ((rfl : _ = _).trans (congrArg Value.bool (decide_eq_false h15))) rfl ?_)
      refine s_nil ?_
      refine t_norm (hK9 _ _ ?_)
      refine c_condb rfl (fun h23 => ?_) (fun h23 => ?_)
      · -- !(hdR h)
        have h23_n : (hdR h) = false := by simpa using h23
        refine wp_seq_k fun K24 hK24 => ?_
        refine c_region ?_
        refine s_op (o_sight (v := (.agg #[(.int .i64 0), (.int .i64 0), (.int .i64 0), (.int .i64 0), (.int .i64 0)])) (fun _ => by kernel_rfl) ?_)
        refine s_eff (o_storeN (vs := [(.int .i64 0), (.int .i64 0), (.int .i64 0), (.int .i64 0), (.int .i64 0)]) (c' := #[(.int .i64 0), (.int .i64 0), (.int .i64 0), (.int .i64 0), (.int .i64 0)]) ti27 rfl rfl rfl rfl (by intro u hu; simp only [List.mem_cons, List.not_mem_nil, or_false] at hu; rcases hu with rfl | rfl | rfl | rfl | rfl <;> first | rfl) (by simp) (by kernel_rfl) (hH21.front 0 rfl) fun w25 hH26 => ?_)
        refine s_op (o_assign (v := (.int .i64 1)) rfl ?_)
        refine s_nil ?_
        refine t_norm (hK24 _ _ ?_)
        refine wp_ret ?_
        refine t_ret (c_retC2 Tryz.results26 rfl (run_loadVarN (cs := [(.int .i64 0), (.int .i64 0), (.int .i64 0), (.int .i64 0), (.int .i64 0)]) Tryz.underlying27 rfl ti27 hH26 (seg_sub 0 rfl) (CellsAt.one rfl)) (x := (.int .i64 1)) rfl ?_)
        have hH27 : Has E w25 [R] := (hH26.front 2 rfl).first 1 rfl
        exact ⟨rfl, hH27⟩
      · -- not: !(hdR h)
        have h23_n : (hdR h) = true := by simpa using h23
        refine wp_skip ?_
        refine t_norm (hK8 _ _ ?_)
        refine wp_seq_k fun K28 hK28 => ?_
        refine wp_seq_k fun K29 hK29 => ?_
        refine c_region ?_
        refine s_op (o_move (v := (.pointer none)) rfl ?_)
        refine s_op (o_move (v := (.int .i64 x)) rfl ?_)
        refine s_op (o_callf (vs := #[(.pointer none), (.int .i64 x)]) ca45 rfl (args2 rfl rfl) (there_nil hH21.all x) ?_)
        rintro _ w32 ⟨rfl, hX30⟩
        refine ⟨_, rfl, ?_⟩
        have hH31 := hX30.of_all
        refine s_op (o_assign (v := (.int .i64 (1 : Int))) rfl ?_)
        refine s_nil ?_
        refine t_norm (hK29 _ _ ?_)
        refine wp_seq_k fun K33 hK33 => ?_
        refine c_region ?_
        refine s_op (o_move (v := (.int .i64 (1 : Int))) rfl ?_)
        refine s_op (o_neq (a := (1 : Int)) (b := 0) rfl rfl ?_)
        refine s_nil ?_
        refine t_norm (hK33 _ _ ?_)
        refine c_cond rfl (fun h34 => ?_) (fun h34 => ?_)
        · -- (1 : Int) ≠ 0
          refine wp_seq_k fun K35 hK35 => ?_
          refine c_region ?_
          refine s_op (o_sight (v := (.agg #[(.int .i64 0), (.int .i64 0), (.int .i64 0), (.int .i64 0), (.int .i64 0)])) (fun _ => by kernel_rfl) ?_)
          refine s_op (o_move (v := (.int .i64 (1 : Int))) rfl ?_)
          refine s_eff (o_storeN (vs := [(.int .i64 0), (.int .i64 0), (.int .i64 0), (.int .i64 0), (.int .i64 0)]) (c' := #[(.int .i64 0), (.int .i64 0), (.int .i64 0), (.int .i64 0), (.int .i64 0)]) ti27 rfl rfl rfl rfl (by intro u hu; simp only [List.mem_cons, List.not_mem_nil, or_false] at hu; rcases hu with rfl | rfl | rfl | rfl | rfl <;> first | rfl) (by simp) (by kernel_rfl) (hH31.front 0 rfl) fun w36 hH37 => ?_)
          refine s_op (o_assign (v := (.int .i64 (1 : Int))) rfl ?_)
          refine s_nil ?_
          refine t_norm (hK35 _ _ ?_)
          refine wp_ret ?_
          refine t_ret (c_retC2 Tryz.results26 rfl (run_loadVarN (cs := [(.int .i64 0), (.int .i64 0), (.int .i64 0), (.int .i64 0), (.int .i64 0)]) Tryz.underlying27 rfl ti27 hH37 (seg_sub 0 rfl) (CellsAt.one rfl)) (x := (.int .i64 (1 : Int))) rfl ?_)
          have hH38 : Has E w36 [R] := (hH37.front 2 rfl).first 1 rfl
          exact ⟨rfl, hH38⟩
        · -- not: (1 : Int) ≠ 0
          exact absurd (by decide) h34
end Go.Q
namespace Go.Q
open Go.Proofs
set_option linter.unusedVariables false
set_option maxRecDepth 100000
attribute [local irreducible] wpList OK Code.wp
set_option maxHeartbeats 4000000 in
theorem hsave_c {E w : World} {R sg : List Hp} {pb db : Nat} {p : Pw} {la : List Bs} (hH : Has E w [sg, [Hp.one pb (.cells #[(.bool p.off), (.bool p.armed), (.int .i64 p.left), (.int .i64 p.uses)] 78 (0, 0))], R]) (hd : DevAt pb sg db la []) (hg : CellsAt R 0 0 nibV) (hp : PwOk p) (hq : PwOk (useS p)) (hla : la.length ≤ 4096) (x : Int) {h : Hd} :
    Calls Tryz.prog 26 #[(.pointer (some ⟨db, 0, none⟩)), (.int .i64 x), (.agg #[(.int .i64 h.seq), (.int .i64 h.ep), (.int .i64 h.cut), (.int .i64 h.st), (.int .i64 h.mrk)])] w fun e w' => ∃ sg', e = .returned (.tuple #[.agg #[(.int .i64 (svH p la.length x h).seq), (.int .i64 (svH p la.length x h).ep), (.int .i64 (svH p la.length x h).cut), (.int .i64 (svH p la.length x h).st), (.int .i64 (svH p la.length x h).mrk)], .int .i64 (svE p la.length x h)]) ∧ DevAt pb sg' db (svA p la x h) (svO p la.length x h) ∧ Has E w' [sg', [Hp.one pb (.cells #[(.bool (svP p la.length x h).off), (.bool (svP p la.length x h).armed), (.int .i64 (svP p la.length x h).left), (.int .i64 (svP p la.length x h).uses)] 78 (0, 0))], R] := by
  refine c_enter (args := [(.pointer (some ⟨db, 0, none⟩)), (.int .i64 x), (.agg #[(.int .i64 h.seq), (.int .i64 h.ep), (.int .i64 h.cut), (.int .i64 h.st), (.int .i64 h.mrk)])]) Tryz.func26 rfl Tryz.ntmps26 (by simp) ?_
  refine wp_seq_k fun K1 hK1 => ?_
  refine c_region ?_
  refine s_op (o_box (cs := #[(.int .i64 h.seq), (.int .i64 h.ep), (.int .i64 h.cut), (.int .i64 h.st), (.int .i64 h.mrk)]) rfl rfl hH fun b2 w3 hH4 => ?_)
  refine s_op (o_alloc (cs := #[(.int .i64 0), (.int .i64 0), (.int .i64 0), (.int .i64 0), (.int .i64 0)]) ti27 rfl hH4 fun b5 w6 hH7 => ?_)
  refine s_op (o_assign (v := (.int .i64 0)) rfl ?_)
  refine s_nil ?_
  refine t_norm (hK1 _ _ ?_)
  refine wp_seq_k fun K8 hK8 => ?_
  refine wp_seq_k fun K9 hK9 => ?_
  refine c_region ?_
  refine s_op (o_fieldAddr (k := 0) (fun _ => by kernel_rfl) rfl ?_)
  refine s_op (o_load1 (v := (.int .i64 h.seq)) Tryz.underlying3 rfl rfl hH7 (seg_sub 1 rfl) (CellsAt.one rfl) ?_)
  refine s_op (o_lss (a := h.seq) (b := 0) rfl rfl ?_)
  refine s_op (o_move (v := (.bool (decide (h.seq < 0)))) rfl ?_)
  by_cases h10 : h.seq < 0
  · -- h.seq < 0
    refine s_off (b' := true) 14 rfl (congrArg Value.bool (decide_eq_true h10)) rfl ?_
    refine s_off (b' := true) 14 rfl (congrArg Value.bool (decide_eq_true h10)) rfl ?_
    refine s_off (b' := true) 14 rfl (congrArg Value.bool (decide_eq_true h10)) rfl ?_
    refine s_op (o_pick_t (u := (.bool true)) ((rfl : _ = _).trans (congrArg Value.bool (decide_eq_true h10))) rfl ?_)
    refine s_op (o_move (v := (.bool true)) rfl ?_)
    refine s_off (b' := true) 19 rfl rfl rfl ?_
    refine s_off (b' := true) 19 rfl rfl rfl ?_
    refine s_off (b' := true) 19 rfl rfl rfl ?_
    refine s_op (o_pick_t (u := (.bool true)) rfl rfl ?_)
    refine s_nil ?_
    refine t_norm (hK9 _ _ ?_)
    refine c_true rfl rfl ?_
    refine wp_seq_k fun K11 hK11 => ?_
    refine c_region ?_
    refine s_op (o_sight (v := (.agg #[(.int .i64 0), (.int .i64 0), (.int .i64 0), (.int .i64 0), (.int .i64 0)])) (fun _ => by kernel_rfl) ?_)
    refine s_eff (o_storeN (vs := [(.int .i64 0), (.int .i64 0), (.int .i64 0), (.int .i64 0), (.int .i64 0)]) (c' := #[(.int .i64 0), (.int .i64 0), (.int .i64 0), (.int .i64 0), (.int .i64 0)]) ti27 rfl rfl rfl rfl (by intro u hu; simp only [List.mem_cons, List.not_mem_nil, or_false] at hu; rcases hu with rfl | rfl | rfl | rfl | rfl <;> first | rfl) (by simp) (by kernel_rfl) (hH7.front 0 rfl) fun w12 hH13 => ?_)
    refine s_op (o_assign (v := (.int .i64 1)) rfl ?_)
    refine s_nil ?_
    refine t_norm (hK11 _ _ ?_)
    refine wp_ret ?_
    refine t_ret (c_retC2 Tryz.results26 rfl (run_loadVarN (cs := [(.int .i64 0), (.int .i64 0), (.int .i64 0), (.int .i64 0), (.int .i64 0)]) Tryz.underlying27 rfl ti27 hH13 (seg_sub 0 rfl) (CellsAt.one rfl)) (x := (.int .i64 1)) rfl ?_)
    have hH14 : Has E w12 [sg, [Hp.one pb (.cells #[(.bool p.off), (.bool p.armed), (.int .i64 p.left), (.int .i64 p.uses)] 78 (0, 0))], R] := (((hH13.front 4 rfl).front 4 rfl).front 4 rfl).first 3 rfl
    obtain ⟨e1_, e2_, e3_, e4_, e5_⟩ := sv_bad (p := p) (la := la) (x := x) (h := h) (fun k => by have k1 := k.1; have k2 := k.2; omega)
    exact ⟨sg, by rw [e4_, e5_]; first | rfl | (unfold hdUp; rfl), by rw [e2_, e3_]; exact hd, by rw [e1_]; exact hH14⟩
  · -- not: h.seq < 0
    refine s_on 14 rfl (congrArg Value.bool (decide_eq_false h10)) (o_fieldAddr (k := 0) (fun _ => by kernel_rfl) rfl ?_)
    refine s_on 14 rfl (congrArg Value.bool (decide_eq_false h10)) (o_load1 (v := (.int .i64 h.seq)) Tryz.underlying3 rfl rfl hH7 (seg_sub 1 rfl) (CellsAt.one rfl) ?_)
    refine s_on 14 rfl (congrArg Value.bool (decide_eq_false h10)) (o_geq (a := h.seq) (b := 4611686018427387903) rfl rfl ?_)
    refine s_op (o_pick_f (u := (.bool (decide (4611686018427387903 ≤ h.seq)))) ((rfl : _ = _).trans (congrArg Value.bool (decide_eq_false h10))) rfl ?_)
    refine s_op (o_move (v := (.bool (decide (4611686018427387903 ≤ h.seq)))) rfl ?_)
    by_cases h15 : 4611686018427387903 ≤ h.seq
    · -- 4611686018427387903 ≤ h.seq
      refine s_off (b' := true) 19 rfl (congrArg Value.bool (decide_eq_true h15)) rfl ?_
      refine s_off (b' := true) 19 rfl (congrArg Value.bool (decide_eq_true h15)) rfl ?_
      refine s_off (b' := true) 19 rfl (congrArg Value.bool (decide_eq_true h15)) rfl ?_
      refine s_op (o_pick_t (u := (.bool true)) ((rfl : _ = _).trans (congrArg Value.bool (decide_eq_true h15))) rfl ?_)
      refine s_nil ?_
      refine t_norm (hK9 _ _ ?_)
      refine c_true rfl rfl ?_
      refine wp_seq_k fun K16 hK16 => ?_
      refine c_region ?_
      refine s_op (o_sight (v := (.agg #[(.int .i64 0), (.int .i64 0), (.int .i64 0), (.int .i64 0), (.int .i64 0)])) (fun _ => by kernel_rfl) ?_)
      refine s_eff (o_storeN (vs := [(.int .i64 0), (.int .i64 0), (.int .i64 0), (.int .i64 0), (.int .i64 0)]) (c' := #[(.int .i64 0), (.int .i64 0), (.int .i64 0), (.int .i64 0), (.int .i64 0)]) ti27 rfl rfl rfl rfl (by intro u hu; simp only [List.mem_cons, List.not_mem_nil, or_false] at hu; rcases hu with rfl | rfl | rfl | rfl | rfl <;> first | rfl) (by simp) (by kernel_rfl) (hH7.front 0 rfl) fun w17 hH18 => ?_)
      refine s_op (o_assign (v := (.int .i64 1)) rfl ?_)
      refine s_nil ?_
      refine t_norm (hK16 _ _ ?_)
      refine wp_ret ?_
      refine t_ret (c_retC2 Tryz.results26 rfl (run_loadVarN (cs := [(.int .i64 0), (.int .i64 0), (.int .i64 0), (.int .i64 0), (.int .i64 0)]) Tryz.underlying27 rfl ti27 hH18 (seg_sub 0 rfl) (CellsAt.one rfl)) (x := (.int .i64 1)) rfl ?_)
      have hH19 : Has E w17 [sg, [Hp.one pb (.cells #[(.bool p.off), (.bool p.armed), (.int .i64 p.left), (.int .i64 p.uses)] 78 (0, 0))], R] := (((hH18.front 4 rfl).front 4 rfl).front 4 rfl).first 3 rfl
      obtain ⟨e1_, e2_, e3_, e4_, e5_⟩ := sv_bad (p := p) (la := la) (x := x) (h := h) (fun k => by have k1 := k.1; have k2 := k.2; omega)
      exact ⟨sg, by rw [e4_, e5_]; first | rfl | (unfold hdUp; rfl), by rw [e2_, e3_]; exact hd, by rw [e1_]; exact hH19⟩
    · -- not: 4611686018427387903 ≤ h.seq
      refine s_on 19 rfl (congrArg Value.bool (decide_eq_false h15)) (o_loadN (cs := [(.int .i64 h.seq), (.int .i64 h.ep), (.int .i64 h.cut), (.int .i64 h.st), (.int .i64 h.mrk)]) Tryz.underlying27 rfl ti27 rfl hH7 (seg_sub 1 rfl) (CellsAt.one rfl) ?_)
      refine s_on 19 rfl (congrArg Value.bool (decide_eq_false h15)) (o_callf (vs := #[(.agg #[(.int .i64 h.seq), (.int .i64 h.ep), (.int .i64 h.cut), (.int .i64 h.st), (.int .i64 h.mrk)])]) ca36 rfl (args1 rfl) (hright_c (h := h) hH7.all ) ?_)
      rintro _ w22 ⟨rfl, hX20⟩
      refine ⟨_, rfl, ?_⟩
      have hH21 := hX20.of_all
      refine s_on 19 rfl (congrArg Value.bool (decide_eq_false h15)) (o_not rfl ?_)
      refine s_op (o_pick_f (u := (.bool (!(hdR h)))) ((rfl : _ = _).trans (congrArg Value.bool (decide_eq_false h15))) rfl ?_)
      refine s_nil ?_
      refine t_norm (hK9 _ _ ?_)
      refine c_condb rfl (fun h23 => ?_) (fun h23 => ?_)
      · -- !(hdR h)
        have h23_n : (hdR h) = false := by simpa using h23
        refine wp_seq_k fun K24 hK24 => ?_
        refine c_region ?_
        refine s_op (o_sight (v := (.agg #[(.int .i64 0), (.int .i64 0), (.int .i64 0), (.int .i64 0), (.int .i64 0)])) (fun _ => by kernel_rfl) ?_)
        refine s_eff (o_storeN (vs := [(.int .i64 0), (.int .i64 0), (.int .i64 0), (.int .i64 0), (.int .i64 0)]) (c' := #[(.int .i64 0), (.int .i64 0), (.int .i64 0), (.int .i64 0), (.int .i64 0)]) ti27 rfl rfl rfl rfl (by intro u hu; simp only [List.mem_cons, List.not_mem_nil, or_false] at hu; rcases hu with rfl | rfl | rfl | rfl | rfl <;> first | rfl) (by simp) (by kernel_rfl) (hH21.front 0 rfl) fun w25 hH26 => ?_)
        refine s_op (o_assign (v := (.int .i64 1)) rfl ?_)
        refine s_nil ?_
        refine t_norm (hK24 _ _ ?_)
        refine wp_ret ?_
        refine t_ret (c_retC2 Tryz.results26 rfl (run_loadVarN (cs := [(.int .i64 0), (.int .i64 0), (.int .i64 0), (.int .i64 0), (.int .i64 0)]) Tryz.underlying27 rfl ti27 hH26 (seg_sub 0 rfl) (CellsAt.one rfl)) (x := (.int .i64 1)) rfl ?_)
        have hH27 : Has E w25 [sg, [Hp.one pb (.cells #[(.bool p.off), (.bool p.armed), (.int .i64 p.left), (.int .i64 p.uses)] 78 (0, 0))], R] := (((hH26.front 4 rfl).front 4 rfl).front 4 rfl).first 3 rfl
        obtain ⟨e1_, e2_, e3_, e4_, e5_⟩ := sv_bad (p := p) (la := la) (x := x) (h := h) (fun k => by have k1 := k.1; have k2 := k.2; have k3 := h23; rw [k2] at k3; cases k3)
        exact ⟨sg, by rw [e4_, e5_]; first | rfl | (unfold hdUp; rfl), by rw [e2_, e3_]; exact hd, by rw [e1_]; exact hH27⟩
      · -- not: !(hdR h)
        have h23_n : (hdR h) = true := by simpa using h23
        refine wp_skip ?_
        refine t_norm (hK8 _ _ ?_)
        refine wp_seq_k fun K28 hK28 => ?_
        refine wp_seq_k fun K29 hK29 => ?_
        refine c_region ?_
        refine s_op (o_move (v := (.pointer (some ⟨db, 0, none⟩))) rfl ?_)
        refine s_op (o_move (v := (.int .i64 x)) rfl ?_)
        refine s_op (o_callf (vs := #[(.pointer (some ⟨db, 0, none⟩)), (.int .i64 x)]) ca45 rfl (args2 rfl rfl) (there_c ((hH21.front 3 rfl).front 3 rfl).all2 hd x) ?_)
        rintro _ w32 ⟨rfl, hX30⟩
        refine ⟨_, rfl, ?_⟩
        have hH31 : Has E w32 [sg, [Hp.one pb (.cells #[(.bool p.off), (.bool p.armed), (.int .i64 p.left), (.int .i64 p.uses)] 78 (0, 0))], [Hp.one b5 (.cells #[(.int .i64 0), (.int .i64 0), (.int .i64 0), (.int .i64 0), (.int .i64 0)] 27 (0, 0))], [Hp.one b2 (.cells #[(.int .i64 h.seq), (.int .i64 h.ep), (.int .i64 h.cut), (.int .i64 h.st), (.int .i64 h.mrk)] 27 (0, 0))], R] := hX30.of_all2
        refine s_op (o_assign (v := (.int .i64 (thE p la.length x))) rfl ?_)
        refine s_nil ?_
        refine t_norm (hK29 _ _ ?_)
        refine wp_seq_k fun K33 hK33 => ?_
        refine c_region ?_
        refine s_op (o_move (v := (.int .i64 (thE p la.length x))) rfl ?_)
        refine s_op (o_neq (a := thE p la.length x) (b := 0) rfl rfl ?_)
        refine s_nil ?_
        refine t_norm (hK33 _ _ ?_)
        refine c_cond rfl (fun h34 => ?_) (fun h34 => ?_)
        · -- thE p la.length x ≠ 0
          have hth_ := h34
          refine wp_seq_k fun K35 hK35 => ?_
          refine c_region ?_
          refine s_op (o_sight (v := (.agg #[(.int .i64 0), (.int .i64 0), (.int .i64 0), (.int .i64 0), (.int .i64 0)])) (fun _ => by kernel_rfl) ?_)
          refine s_op (o_move (v := (.int .i64 (thE p la.length x))) rfl ?_)
          refine s_eff (o_storeN (vs := [(.int .i64 0), (.int .i64 0), (.int .i64 0), (.int .i64 0), (.int .i64 0)]) (c' := #[(.int .i64 0), (.int .i64 0), (.int .i64 0), (.int .i64 0), (.int .i64 0)]) ti27 rfl rfl rfl rfl (by intro u hu; simp only [List.mem_cons, List.not_mem_nil, or_false] at hu; rcases hu with rfl | rfl | rfl | rfl | rfl <;> first | rfl) (by simp) (by kernel_rfl) (hH31.front 2 rfl) fun w36 hH37 => ?_)
          refine s_op (o_assign (v := (.int .i64 (thE p la.length x))) rfl ?_)
          refine s_nil ?_
          refine t_norm (hK35 _ _ ?_)
          refine wp_ret ?_
          refine t_ret (c_retC2 Tryz.results26 rfl (run_loadVarN (cs := [(.int .i64 0), (.int .i64 0), (.int .i64 0), (.int .i64 0), (.int .i64 0)]) Tryz.underlying27 rfl ti27 hH37 (seg_sub 0 rfl) (CellsAt.one rfl)) (x := (.int .i64 (thE p la.length x))) rfl ?_)
          have hH38 : Has E w36 [sg, [Hp.one pb (.cells #[(.bool p.off), (.bool p.armed), (.int .i64 p.left), (.int .i64 p.uses)] 78 (0, 0))], R] := (((hH37.front 4 rfl).front 3 rfl).front 3 rfl).first 3 rfl
          obtain ⟨e1_, e2_, e3_, e4_, e5_⟩ := sv_th (h := h) ⟨⟨by omega, by omega⟩, by simpa using h23⟩ hth_
          exact ⟨sg, by rw [e4_, e5_]; first | rfl | (unfold hdUp; rfl), by rw [e2_, e3_]; exact hd, by rw [e1_]; exact hH38⟩
        · -- not: thE p la.length x ≠ 0
          have hth_ := thE_zero (Classical.not_not.1 h34)
          have hok_ : svOk h := ⟨⟨by omega, by omega⟩, by simpa using h23⟩
          have hT_ : svTry la.length x h := ⟨hok_, hth_.1⟩
          obtain ⟨hx1_, hx2_⟩ := hth_.1
          refine wp_skip ?_
          refine t_norm (hK28 _ _ ?_)
          refine wp_seq_k fun K39 hK39 => ?_
          refine c_region ?_
          refine s_op (o_fieldAddr (k := 0) (fun _ => by kernel_rfl) rfl ?_)
          refine s_op (o_load1 (v := (.int .i64 h.seq)) Tryz.underlying3 rfl rfl hH31 (seg_sub 3 rfl) (CellsAt.one rfl) ?_)
          refine s_op (o_add (a := h.seq) (b := 1) rfl rfl (w64 (by omega) (by omega)) ?_)
          refine s_op (o_fieldAddr (k := 0) (fun _ => by kernel_rfl) rfl ?_)
          refine s_eff (o_store1 (c' := #[(.int .i64 (h.seq + 1)), (.int .i64 h.ep), (.int .i64 h.cut), (.int .i64 h.st), (.int .i64 h.mrk)]) ti3 rfl rfl rfl (by simp) rfl (hH31.front 3 rfl) fun w40 hH41 => ?_)
          refine s_nil ?_
          refine t_norm (hK39 _ _ ?_)
          refine wp_seq_k fun K42 hK42 => ?_
          refine wp_seq_k fun K43 hK43 => ?_
          refine Rest.region mixed (by kernel_rfl) ?_
          have hH44 : Has E { w40 with drawn := w40.drawn + 1 } [[Hp.one b2 (.cells #[(.int .i64 (h.seq + 1)), (.int .i64 h.ep), (.int .i64 h.cut), (.int .i64 h.st), (.int .i64 h.mrk)] 27 (0, 0))], sg, [Hp.one pb (.cells #[(.bool p.off), (.bool p.armed), (.int .i64 p.left), (.int .i64 p.uses)] 78 (0, 0))], [Hp.one b5 (.cells #[(.int .i64 0), (.int .i64 0), (.int .i64 0), (.int .i64 0), (.int .i64 0)] 27 (0, 0))], R] := Has0.drew hH41 _
          refine Rest.phaseA (fun w_ => Has E w_ [[Hp.one b2 (.cells #[(.int .i64 (h.seq + 1)), (.int .i64 h.ep), (.int .i64 h.cut), (.int .i64 h.st), (.int .i64 h.mrk)] 27 (0, 0))]]) 0 9 9 rfl (by decide) (by kernel_rfl) ?_
          refine a_op 0 rfl (by kernel_rfl) (fun w_ h_ => o_move (v := (.pointer (some ⟨db, 0, none⟩))) rfl ⟨rfl, rfl⟩) ?_
          refine a_op 1 rfl (by kernel_rfl) (fun w_ h_ => o_move (v := (.int .i64 x)) rfl ⟨rfl, rfl⟩) ?_
          refine a_op 2 rfl (by kernel_rfl) (fun w_ h_ => o_fieldAddr (k := 0) (fun _ => by kernel_rfl) rfl ⟨rfl, rfl⟩) ?_
          refine a_op 3 rfl (by kernel_rfl) (fun w_ h_ => o_load1 (v := (.int .i64 (h.seq + 1))) Tryz.underlying3 rfl rfl h_ (seg_sub 0 rfl) (CellsAt.one rfl) ⟨rfl, rfl⟩) ?_
          refine a_op 4 rfl (by kernel_rfl) (fun w_ h_ => o_rem (a := h.seq + 1) (b := 2) (c := (h.seq + 1) % 2) rfl rfl (by omega) ((Int.tmod_eq_emod_of_nonneg (by first | exact Int.natCast_nonneg _ | omega))) ⟨rfl, rfl⟩) ?_
          refine a_op 5 rfl (by kernel_rfl) (fun w_ h_ => o_add (a := x) (b := (h.seq + 1) % 2) rfl rfl (w64 (by omega) (by omega)) ⟨rfl, rfl⟩) ?_
          refine a_op 6 rfl (by kernel_rfl) (fun w_ h_ => o_loadN (cs := [(.int .i64 (h.seq + 1)), (.int .i64 h.ep), (.int .i64 h.cut), (.int .i64 h.st), (.int .i64 h.mrk)]) Tryz.underlying27 rfl ti27 rfl h_ (seg_sub 0 rfl) (CellsAt.one rfl) ⟨rfl, rfl⟩) ?_
          have hH45 : Has E { w40 with drawn := w40.drawn + 1 } [[Hp.one b2 (.cells #[(.int .i64 (h.seq + 1)), (.int .i64 h.ep), (.int .i64 h.cut), (.int .i64 h.st), (.int .i64 h.mrk)] 27 (0, 0))]] := hH44.first 1 rfl
          refine a_w 7 rfl (by kernel_rfl) hH45 (o_callf (vs := #[(.agg #[(.int .i64 (h.seq + 1)), (.int .i64 h.ep), (.int .i64 h.cut), (.int .i64 h.st), (.int .i64 h.mrk)])]) ca14 rfl (args1 rfl) (hlaid_c (h := (Hd.mk (h.seq + 1) h.ep h.cut h.st h.mrk)) hH44.all (hg.mono (seg_sub 4 rfl))) ?_)
          rintro _ w48 ⟨rfl, hX46⟩
          refine ⟨_, rfl, ?_⟩
          have hH47 := hX46.of_all
          have hH49 : Has E w48 [[Hp.one b2 (.cells #[(.int .i64 (h.seq + 1)), (.int .i64 h.ep), (.int .i64 h.cut), (.int .i64 h.st), (.int .i64 h.mrk)] 27 (0, 0))]] := hH47.first 1 rfl
          refine a_w 8 rfl (by kernel_rfl) hH49 (o_buildSlice (ps := #[(0, (S (hdL (Hd.mk (h.seq + 1) h.ep h.cut h.st h.mrk))))]) (cells := #[(S (hdL (Hd.mk (h.seq + 1) h.ep h.cut h.st h.mrk)))]) Tryz.underlying79 ti9 (by decide) (parts1 rfl) (by kernel_rfl) hH47 fun b50 w51 hH52 => ?_)
          have hH53 : Has E w51 [[Hp.one b2 (.cells #[(.int .i64 (h.seq + 1)), (.int .i64 h.ep), (.int .i64 h.cut), (.int .i64 h.st), (.int .i64 h.mrk)] 27 (0, 0))]] := (hH52.front 1 rfl).first 1 rfl
          refine a_done (by kernel_rfl) hH53 ?_
          refine r_op 9 rfl (by kernel_rfl) (o_callf (vs := #[(.pointer (some ⟨db, 0, none⟩)), (.int .i64 (x + ((h.seq + 1) % 2))), (.slice (some ⟨b50, 0, none⟩) 1 1)]) ca49 rfl (args3 rfl rfl rfl) (write_d (p := p) (la := la) (lo := ([] : List (Int × Bs))) ((hH52.front 3 rfl).front 3 rfl).all2 hd hp hla (x + ((h.seq + 1) % 2)) (l := [(hdL (Hd.mk (h.seq + 1) h.ep h.cut h.st h.mrk))]) ((sl_lit (f := sV) (l := [(hdL (Hd.mk (h.seq + 1) h.ep h.cut h.st h.mrk))]) rfl rfl (by simp)).mono (seg_sub 0 rfl)) (by simp) (by simp only [List.flatten_cons, List.flatten_nil, List.append_nil]; have := hdU_len hok_; unfold hdUp at this; omega)) ?_)
          rintro _ w58 ⟨sg54, rfl, hd55, hX56⟩
          refine ⟨_, rfl, ?_⟩
          have hH57 : Has E w58 [sg54, [Hp.one pb (.cells #[(.bool (useS p).off), (.bool (useS p).armed), (.int .i64 (useS p).left), (.int .i64 (useS p).uses)] 78 (0, 0))], [Hp.one b50 (.cells #[(S (hdL (Hd.mk (h.seq + 1) h.ep h.cut h.st h.mrk)))] 9 (0, 0))], [Hp.one b2 (.cells #[(.int .i64 (h.seq + 1)), (.int .i64 h.ep), (.int .i64 h.cut), (.int .i64 h.st), (.int .i64 h.mrk)] 27 (0, 0))], [Hp.one b5 (.cells #[(.int .i64 0), (.int .i64 0), (.int .i64 0), (.int .i64 0), (.int .i64 0)] 27 (0, 0))], R] := hX56.of_all2
          refine r_op 10 rfl (by kernel_rfl) (o_assign (v := (.int .i64 (writeE p la.length (x + ((h.seq + 1) % 2)) [(hdL (Hd.mk (h.seq + 1) h.ep h.cut h.st h.mrk))].flatten))) rfl ?_)
          refine Rest.done (by kernel_rfl) ?_
          refine t_norm (hK43 _ _ ?_)
          refine wp_seq_k fun K59 hK59 => ?_
          refine c_region ?_
          refine s_op (o_move (v := (.int .i64 (writeE p la.length (x + ((h.seq + 1) % 2)) [(hdL (Hd.mk (h.seq + 1) h.ep h.cut h.st h.mrk))].flatten))) rfl ?_)
          refine s_op (o_neq (a := writeE p la.length (x + ((h.seq + 1) % 2)) [(hdL (Hd.mk (h.seq + 1) h.ep h.cut h.st h.mrk))].flatten) (b := 0) rfl rfl ?_)
          refine s_nil ?_
          refine t_norm (hK59 _ _ ?_)
          refine c_cond rfl (fun h60 => ?_) (fun h60 => ?_)
          · -- writeE p la.length (x + ((h.seq + 1) % 2)) [(hdL (Hd.mk (h.seq + 1) h.ep h.cut h.st h.mrk))].flatten ≠ 0
            refine wp_seq_k fun K61 hK61 => ?_
            refine c_region ?_
            refine s_op (o_sight (v := (.agg #[(.int .i64 0), (.int .i64 0), (.int .i64 0), (.int .i64 0), (.int .i64 0)])) (fun _ => by kernel_rfl) ?_)
            refine s_op (o_move (v := (.int .i64 (writeE p la.length (x + ((h.seq + 1) % 2)) [(hdL (Hd.mk (h.seq + 1) h.ep h.cut h.st h.mrk))].flatten))) rfl ?_)
            refine s_eff (o_storeN (vs := [(.int .i64 0), (.int .i64 0), (.int .i64 0), (.int .i64 0), (.int .i64 0)]) (c' := #[(.int .i64 0), (.int .i64 0), (.int .i64 0), (.int .i64 0), (.int .i64 0)]) ti27 rfl rfl rfl rfl (by intro u hu; simp only [List.mem_cons, List.not_mem_nil, or_false] at hu; rcases hu with rfl | rfl | rfl | rfl | rfl <;> first | rfl) (by simp) (by kernel_rfl) (hH57.front 4 rfl) fun w62 hH63 => ?_)
            refine s_op (o_assign (v := (.int .i64 (writeE p la.length (x + ((h.seq + 1) % 2)) [(hdL (Hd.mk (h.seq + 1) h.ep h.cut h.st h.mrk))].flatten))) rfl ?_)
            refine s_nil ?_
            refine t_norm (hK61 _ _ ?_)
            refine wp_ret ?_
            refine t_ret (c_retC2 Tryz.results26 rfl (run_loadVarN (cs := [(.int .i64 0), (.int .i64 0), (.int .i64 0), (.int .i64 0), (.int .i64 0)]) Tryz.underlying27 rfl ti27 hH63 (seg_sub 0 rfl) (CellsAt.one rfl)) (x := (.int .i64 (writeE p la.length (x + ((h.seq + 1) % 2)) [(hdL (Hd.mk (h.seq + 1) h.ep h.cut h.st h.mrk))].flatten))) rfl ?_)
            have hH64 : Has E w62 [sg54, [Hp.one pb (.cells #[(.bool (useS p).off), (.bool (useS p).armed), (.int .i64 (useS p).left), (.int .i64 (useS p).uses)] 78 (0, 0))], R] := (((hH63.front 5 rfl).front 3 rfl).front 3 rfl).first 3 rfl
            obtain ⟨e1_, e2_, e3_, e4_, e5_⟩ := sv_end1 hT_ h60
            exact ⟨sg54, by rw [e4_, e5_]; first | rfl | (unfold hdUp; rfl), by rw [e2_, e3_]; exact hd55, by rw [e1_]; exact hH64⟩
          · -- not: writeE p la.length (x + ((h.seq + 1) % 2)) [(hdL (Hd.mk (h.seq + 1) h.ep h.cut h.st h.mrk))].flatten ≠ 0
            refine wp_skip ?_
            refine t_norm (hK42 _ _ ?_)
            refine wp_seq_k fun K65 hK65 => ?_
            refine wp_seq_k fun K66 hK66 => ?_
            refine c_region ?_
            refine s_op (o_move (v := (.pointer (some ⟨db, 0, none⟩))) rfl ?_)
            refine s_op (o_callf (vs := #[(.pointer (some ⟨db, 0, none⟩))]) ca50 rfl (args1 rfl) (sync_d (p := (useS p)) (la := la) (lo := (writeS p la.length ([] : List (Int × Bs)) (x + ((h.seq + 1) % 2)) [(hdL (Hd.mk (h.seq + 1) h.ep h.cut h.st h.mrk))].flatten)) ((hH57.front 1 rfl).front 1 rfl).all2 hd55 hq hla ((LoOk.nil _).write _ _ _)) ?_)
            rintro _ w71 ⟨sg67, rfl, hd68, hX69⟩
            refine ⟨_, rfl, ?_⟩
            have hH70 : Has E w71 [sg67, [Hp.one pb (.cells #[(.bool (useS (useS p)).off), (.bool (useS (useS p)).armed), (.int .i64 (useS (useS p)).left), (.int .i64 (useS (useS p)).uses)] 78 (0, 0))], [Hp.one b50 (.cells #[(S (hdL (Hd.mk (h.seq + 1) h.ep h.cut h.st h.mrk)))] 9 (0, 0))], [Hp.one b2 (.cells #[(.int .i64 (h.seq + 1)), (.int .i64 h.ep), (.int .i64 h.cut), (.int .i64 h.st), (.int .i64 h.mrk)] 27 (0, 0))], [Hp.one b5 (.cells #[(.int .i64 0), (.int .i64 0), (.int .i64 0), (.int .i64 0), (.int .i64 0)] 27 (0, 0))], R] := hX69.of_all2
            refine s_op (o_assign (v := (.int .i64 (syncE (useS p)))) rfl ?_)
            refine s_nil ?_
            refine t_norm (hK66 _ _ ?_)
            refine wp_seq_k fun K72 hK72 => ?_
            refine c_region ?_
            refine s_op (o_move (v := (.int .i64 (syncE (useS p)))) rfl ?_)
            refine s_op (o_neq (a := syncE (useS p)) (b := 0) rfl rfl ?_)
            refine s_nil ?_
            refine t_norm (hK72 _ _ ?_)
            refine c_cond rfl (fun h73 => ?_) (fun h73 => ?_)
            · -- syncE (useS p) ≠ 0
              refine wp_seq_k fun K74 hK74 => ?_
              refine c_region ?_
              refine s_op (o_sight (v := (.agg #[(.int .i64 0), (.int .i64 0), (.int .i64 0), (.int .i64 0), (.int .i64 0)])) (fun _ => by kernel_rfl) ?_)
              refine s_op (o_move (v := (.int .i64 (syncE (useS p)))) rfl ?_)
              refine s_eff (o_storeN (vs := [(.int .i64 0), (.int .i64 0), (.int .i64 0), (.int .i64 0), (.int .i64 0)]) (c' := #[(.int .i64 0), (.int .i64 0), (.int .i64 0), (.int .i64 0), (.int .i64 0)]) ti27 rfl rfl rfl rfl (by intro u hu; simp only [List.mem_cons, List.not_mem_nil, or_false] at hu; rcases hu with rfl | rfl | rfl | rfl | rfl <;> first | rfl) (by simp) (by kernel_rfl) (hH70.front 4 rfl) fun w75 hH76 => ?_)
              refine s_op (o_assign (v := (.int .i64 (syncE (useS p)))) rfl ?_)
              refine s_nil ?_
              refine t_norm (hK74 _ _ ?_)
              refine wp_ret ?_
              refine t_ret (c_retC2 Tryz.results26 rfl (run_loadVarN (cs := [(.int .i64 0), (.int .i64 0), (.int .i64 0), (.int .i64 0), (.int .i64 0)]) Tryz.underlying27 rfl ti27 hH76 (seg_sub 0 rfl) (CellsAt.one rfl)) (x := (.int .i64 (syncE (useS p)))) rfl ?_)
              have hH77 : Has E w75 [sg67, [Hp.one pb (.cells #[(.bool (useS (useS p)).off), (.bool (useS (useS p)).armed), (.int .i64 (useS (useS p)).left), (.int .i64 (useS (useS p)).uses)] 78 (0, 0))], R] := (((hH76.front 5 rfl).front 3 rfl).front 3 rfl).first 3 rfl
              obtain ⟨e1_, e2_, e3_, e4_, e5_⟩ := sv_end2 hT_ (Classical.not_not.1 h60) h73
              exact ⟨sg67, by rw [e4_, e5_]; first | rfl | (unfold hdUp; rfl), by rw [e2_, e3_]; exact hd68, by rw [e1_]; exact hH77⟩
            · -- not: syncE (useS p) ≠ 0
              refine wp_skip ?_
              refine t_norm (hK65 _ _ ?_)
              refine wp_seq_k fun K78 hK78 => ?_
              refine c_region ?_
              refine s_op (o_loadN (cs := [(.int .i64 (h.seq + 1)), (.int .i64 h.ep), (.int .i64 h.cut), (.int .i64 h.st), (.int .i64 h.mrk)]) Tryz.underlying27 rfl ti27 rfl hH70 (seg_sub 3 rfl) (CellsAt.one rfl) ?_)
              refine s_eff (o_storeN (vs := [(.int .i64 (h.seq + 1)), (.int .i64 h.ep), (.int .i64 h.cut), (.int .i64 h.st), (.int .i64 h.mrk)]) (c' := #[(.int .i64 (h.seq + 1)), (.int .i64 h.ep), (.int .i64 h.cut), (.int .i64 h.st), (.int .i64 h.mrk)]) ti27 rfl rfl rfl rfl (by intro u hu; simp only [List.mem_cons, List.not_mem_nil, or_false] at hu; rcases hu with rfl | rfl | rfl | rfl | rfl <;> first | rfl) (by simp) (by kernel_rfl) (hH70.front 4 rfl) fun w79 hH80 => ?_)
              refine s_op (o_assign (v := (.int .i64 0)) rfl ?_)
              refine s_nil ?_
              refine t_norm (hK78 _ _ ?_)
              refine wp_ret ?_
              refine c_retC2 Tryz.results26 rfl (run_loadVarN (cs := [(.int .i64 (h.seq + 1)), (.int .i64 h.ep), (.int .i64 h.cut), (.int .i64 h.st), (.int .i64 h.mrk)]) Tryz.underlying27 rfl ti27 hH80 (seg_sub 0 rfl) (CellsAt.one rfl)) (x := (.int .i64 0)) rfl ?_
              have hH81 : Has E w79 [sg67, [Hp.one pb (.cells #[(.bool (useS (useS p)).off), (.bool (useS (useS p)).armed), (.int .i64 (useS (useS p)).left), (.int .i64 (useS (useS p)).uses)] 78 (0, 0))], R] := (((hH80.front 5 rfl).front 3 rfl).front 3 rfl).first 3 rfl
              obtain ⟨e1_, e2_, e3_, e4_, e5_⟩ := sv_end3 hT_ (Classical.not_not.1 h60) (Classical.not_not.1 h73)
              exact ⟨sg67, by rw [e4_, e5_]; first | rfl | (unfold hdUp; rfl), by rw [e2_, e3_]; exact hd68, by rw [e1_]; exact hH81⟩
end Go.Q
namespace Go.Q
section
variable {H : Type} {enc : TypeId × Value → H} {P : Program} {w : World} {t e : TypeId} {cs : List Value}
/-- These cells read as a value of the type. -/
def Rd (enc : TypeId × Value → H) (P : Program) (w : World) (t : TypeId) (cs : List Value) : Prop := ∃ fuel x, DataW.trod enc P w 0 (fun _ => true) true fuel t cs = some x
theorem rd_of {v : Value} {d : DataW H} {ps : List MemPlace} (h : DataW.Trod enc P w 0 (fun _ => true) true t v d ps) : Rd enc P w t v.cells.toList := ⟨h.choose, _, h.choose_spec⟩
theorem rd_int {k : IntKind} (ht : P.underlying t = some (.int k)) (h : Rd enc P w t cs) : ∃ n, cs = [.int k n] ∧ (Lit.int k n).wf = true := by
  obtain ⟨f, x, h⟩ := h
  obtain ⟨n, h1, _, h2⟩ := DataW.trod_int ht h
  exact ⟨n, h1, h2⟩
theorem rd_i64 (ht : P.underlying t = some (.int .i64)) (h : Rd enc P w t cs) : ∃ n, cs = [iV n] ∧ (-9223372036854775808 : Int) ≤ n ∧ n ≤ 9223372036854775807 := by
  obtain ⟨n, h1, h2⟩ := rd_int ht h
  exact ⟨n, h1, wf_i64 h2⟩
theorem rd_string (ht : P.underlying t = some .string) (h : Rd enc P w t cs) : ∃ l : List UInt8, cs = [S l] ∧ l.length ≤ 9223372036854775807 := by
  obtain ⟨f, x, h⟩ := h
  obtain ⟨s, h1, _, h2⟩ := DataW.trod_string ht h
  exact ⟨s.data.toList, by rw [h1, S_of], by rw [show maxLen = 9223372036854775807 from rfl] at h2; exact h2⟩
theorem rd_bool (ht : P.underlying t = some .bool) (h : Rd enc P w t cs) : ∃ b, cs = [.bool b] := by
  obtain ⟨f, x, h⟩ := h
  cases f with
  | zero => simp [DataW.trod] at h
  | succ m =>
    unfold DataW.trod at h
    rw [ht] at h
    split at h <;> simp_all
theorem rd_struct {fs : Array Field} (ht : P.underlying t = some (.struct fs)) (h : Rd enc P w t cs) :
    cs.length = P.cellsOf t ∧ ∀ (i : Nat) (f : Field), fs[i]? = some f → Rd enc P w f.type ((cs.drop f.offset).take (P.cellsOf f.type)) := by
  obtain ⟨f, x, h⟩ := h
  obtain ⟨xs, n, _, _, h1, h2, h3⟩ := DataW.trod_struct ht h
  refine ⟨h1, fun i f hf => ?_⟩
  have hi : i < xs.length := by rw [h2]; exact (Array.getElem?_eq_some_iff.1 hf).1
  exact ⟨n, xs[i], by rw [h3 i f hf, List.getElem?_eq_getElem hi]⟩
theorem rd_field {fs : Array Field} {i k : Nat} {f : Field} {T : TypeId} {ds : List Value} (hf : ∀ (i : Nat) (f : Field), fs[i]? = some f → Rd enc P w f.type ((cs.drop f.offset).take (P.cellsOf f.type)))
    (h : fs[i]? = some f) (hT : f.type = T) (hc : P.cellsOf T = k) (hd : (cs.drop f.offset).take k = ds) : Rd enc P w T ds := by
  have g := hf i f h
  rw [hT, hc, hd] at g
  exact g
theorem rd_slice (ht : P.underlying t = some (.slice e)) (h : Rd enc P w t cs) :
    cs = [.slice none 0 0] ∨ ∃ a len cap, cs = [.slice (some a) len cap] ∧ len ≤ cap ∧ cap ≤ 9223372036854775807 ∧
      ∀ i, i < len → ∃ r : List Value, r.length = P.cellsOf e ∧ Rd enc P w e r ∧ ∀ j, j < P.cellsOf e → w.cell? (a.add (i * P.cellsOf e + j)) = r[j]? := by
  obtain ⟨f, x, h⟩ := h
  rcases DataW.trod_slice ht h with ⟨h, _⟩ | ⟨a, len, cap, elems, rest, n, _, h1, _, _, h2, h3, h4, h5, _⟩
  · exact .inl h
  · refine .inr ⟨a, len, cap, h1, h2, by simpa [maxLen] using h3, fun i hi => ?_⟩
    have hb := h5 i hi
    rw [List.getElem?_eq_getElem (by omega)] at hb
    obtain ⟨r, hr, hd⟩ := Option.bind_eq_some_iff.1 hb
    obtain ⟨_, g1, g2⟩ := World.cells?_some hr
    refine ⟨r, g1, ⟨n, _, hd⟩, fun j hj => ?_⟩
    rw [← g2 j hj, Addr.add_add]
/-- A row, by how its elements read. -/
theorem rd_rows {α : Type} {f : α → List Value} {Good : α → Prop} {sz : Nat} (ht : P.underlying t = some (.slice e)) (hc : P.cellsOf e = sz) (h0 : 0 < sz) (hf : ∀ a, (f a).length = sz)
    (each : ∀ r, Rd enc P w e r → ∃ a, r = f a ∧ Good a) (h : Rd enc P w t cs) : ∃ (v : Value) (l : List α), cs = [v] ∧ Sl [Hp.of w] sz v l.length (l.flatMap f) ∧ ∀ a ∈ l, Good a := by
  subst hc
  rcases rd_slice ht h with rfl | ⟨a, len, cap, rfl, h1, h2, h3⟩
  · exact ⟨_, [], rfl, ⟨none, 0, rfl, Nat.le_refl _, by omega, by simp, fun g => by simp at g⟩, fun a ha => by cases ha⟩
  · have key : ∀ k, k ≤ len → ∃ l : List α, l.length = k ∧ (∀ a ∈ l, Good a) ∧ ∀ i v, (l.flatMap f)[i]? = some v → w.cell? (a.add i) = some v := by
      intro k
      induction k with
      | zero => intro _; exact ⟨[], rfl, fun a ha => (by cases ha), fun i v hv => by simp at hv⟩
      | succ k ih =>
        intro hk
        obtain ⟨l, hl, hg, hcell⟩ := ih (by omega)
        obtain ⟨r, hr, hd, hrc⟩ := h3 k (by omega)
        obtain ⟨y, rfl, hy⟩ := each r hd
        refine ⟨l ++ [y], by simp [hl], fun a ha => ?_, fun i v hv => ?_⟩
        · rcases List.mem_append.1 ha with g | g
          · exact hg a g
          · rw [List.mem_singleton.1 g]; exact hy
        · rw [List.flatMap_append, List.flatMap_cons, List.flatMap_nil, List.append_nil] at hv
          have hlen := flat_len hf l
          rcases Nat.lt_or_ge i (l.flatMap f).length with g | g
          · rw [List.getElem?_append_left g] at hv; exact hcell i v hv
          · rw [List.getElem?_append_right g] at hv
            have hj : i - (l.flatMap f).length < P.cellsOf e := by rw [← hr]; exact (List.getElem?_eq_some_iff.1 hv).1
            have := hrc (i - (l.flatMap f).length) hj
            rw [hv] at this
            rw [← this]; congr 2
            rw [hlen, hl] at g hj ⊢; omega
    obtain ⟨l, hl, hg, hcell⟩ := key len (Nat.le_refl _)
    refine ⟨_, l, rfl, ⟨some a, cap, by rw [hl], by omega, h2, flat_len hf l, fun g => ?_⟩, hg⟩
    obtain ⟨b, off, rfl, hc⟩ := cells_row (w := w) (x := a) (vs := l.flatMap f) (by rw [flat_len hf l]; exact Nat.mul_pos g h0) hcell
    exact ⟨b, off, rfl, hc⟩
theorem flat_one {α : Type} (f : α → Value) : ∀ l : List α, l.flatMap (fun a => [f a]) = l.map f
  | [] => rfl
  | a :: l => by rw [List.flatMap_cons, flat_one f l]; rfl
theorem rd_row1 {α : Type} {f : α → Value} {Good : α → Prop} (ht : P.underlying t = some (.slice e)) (hc : P.cellsOf e = 1)
    (each : ∀ r, Rd enc P w e r → ∃ a, r = [f a] ∧ Good a) (h : Rd enc P w t cs) : ∃ (v : Value) (l : List α), cs = [v] ∧ Sl [Hp.of w] 1 v l.length (l.map f) ∧ ∀ a ∈ l, Good a := by
  obtain ⟨v, l, h1, h2, h3⟩ := rd_rows (f := fun a => [f a]) ht hc (by omega) (fun _ => rfl) each h
  exact ⟨v, l, h1, by rw [flat_one] at h2; exact h2, h3⟩
/-- bounds of an int -/
def I64 (n : Int) : Prop := -9223372036854775808 ≤ n ∧ n ≤ 9223372036854775807
theorem rd_ints (ht : P.underlying t = some (.slice e)) (he : P.underlying e = some (.int .i64)) (hc : P.cellsOf e = 1) (h : Rd enc P w t cs) : ∃ (v : Value) (l : List Int), cs = [v] ∧ Ints [Hp.of w] v l ∧ ∀ a ∈ l, I64 a :=
  rd_row1 ht hc (fun r hr => rd_i64 he hr) h
theorem rd_strings (ht : P.underlying t = some (.slice e)) (he : P.underlying e = some .string) (hc : P.cellsOf e = 1) (h : Rd enc P w t cs) : ∃ (v : Value) (l : List (List UInt8)), cs = [v] ∧ Sl [Hp.of w] 1 v l.length (l.map S) ∧ ∀ a ∈ l, a.length ≤ 9223372036854775807 :=
  rd_row1 ht hc (fun r hr => rd_string he hr) h
/-- a value of a type of one cell is its cell -/
theorem val_one {r : Reach} {b0 : Nat} {v u : Value} (hn : match P.underlying t with | some (.struct _) => False | some (.array _ _) => False | _ => True) (hval : Value.okWide P w r b0 t v) (h : v.cells.toList = [u]) : v = u := by
  cases v with
  | agg c =>
    unfold Value.okWide at hval
    cases hu : P.underlying t with
    | none => rw [hu] at hval; simp [Cell.okWide, Cell.ok, hu] at hval
    | some d => rw [hu] at hn hval; cases d <;> first | exact hn.elim | (simp [Cell.okWide, Cell.ok, hu] at hval)
  | _ => simpa [Value.cells] using h
end
end Go.Q
namespace Go.Q
section
variable {H : Type} {enc : TypeId × Value → H} {P : Program} {w : World} {t e : TypeId} {cs : List Value}
/-- These cells read as a value of the type, and each text and row in it is within the reach. -/
def RdS (enc : TypeId × Value → H) (P : Program) (w : World) (t : TypeId) (cs : List Value) : Prop := ∃ fuel x, DataW.trod enc P w 0 (fun _ => true) true fuel t cs = some x ∧ ∀ n ∈ DataW.weights P t x.1, n ≤ reachBytes
theorem RdS.rd (h : RdS enc P w t cs) : Rd enc P w t cs := let ⟨f, x, h, _⟩ := h; ⟨f, x, h⟩
theorem rds_of {v : Value} {d : DataW H} {ps : List MemPlace} (h : DataW.Trod enc P w 0 (fun _ => true) true t v d ps) {ts : List TypeId} {ds : List (DataW H)} (hs : (DataW.weightsEach P ts ds).all (· ≤ reachBytes) = true) {j : Nat} (ht : ts[j]? = some t) (hd : ds[j]? = some d) : RdS enc P w t v.cells.toList :=
  ⟨h.choose, _, h.choose_spec, fun n hn => by simpa using List.all_eq_true.1 hs n (DataW.weights_mem_each ht hd n hn)⟩
theorem rds_string (ht : P.underlying t = some .string) (h : RdS enc P w t cs) : ∃ l : List UInt8, cs = [S l] ∧ l.length ≤ 140737488355328 := by
  obtain ⟨f, x, h, hw⟩ := h
  obtain ⟨s, h1, hx, _⟩ := DataW.trod_string ht h
  refine ⟨s.data.toList, by rw [h1, S_of], ?_⟩
  have := hw s.data.toList.length (by rw [hx]; simp [DataW.weights])
  have := reachBytes_lt
  omega
theorem mem_all {H : Type} {P : Program} {t : TypeId} : ∀ {ds : List (DataW H)} {d : DataW H}, d ∈ ds → ∀ n ∈ DataW.weights P t d, n ∈ DataW.weightsAll P t ds
  | d0 :: ds, d, h, n, hn => by
    simp only [DataW.weightsAll, List.mem_append]
    rcases List.mem_cons.1 h with rfl | h
    · exact .inl hn
    · exact .inr (mem_all h n hn)
theorem rds_struct {fs : Array Field} (ht : P.underlying t = some (.struct fs)) (h : RdS enc P w t cs) :
    cs.length = P.cellsOf t ∧ ∀ (i : Nat) (f : Field), fs[i]? = some f → RdS enc P w f.type ((cs.drop f.offset).take (P.cellsOf f.type)) := by
  obtain ⟨f, x, h, hw⟩ := h
  obtain ⟨xs, n, _, hx, h1, h2, h3⟩ := DataW.trod_struct ht h
  refine ⟨h1, fun i f hf => ?_⟩
  have hi : i < xs.length := by rw [h2]; exact (Array.getElem?_eq_some_iff.1 hf).1
  refine ⟨n, xs[i], by rw [h3 i f hf, List.getElem?_eq_getElem hi], fun m hm => hw m ?_⟩
  rw [hx]
  simp only [DataW.weights, ht]
  refine DataW.weights_mem_each (j := i) (t := f.type) (d := xs[i].1) ?_ ?_ m hm
  · rw [List.getElem?_map]; simpa using congrArg (Option.map (·.type)) hf
  · rw [List.getElem?_map, List.getElem?_eq_getElem hi]; rfl
theorem rds_field {fs : Array Field} {i k : Nat} {f : Field} {T : TypeId} {ds : List Value} (hf : ∀ (i : Nat) (f : Field), fs[i]? = some f → RdS enc P w f.type ((cs.drop f.offset).take (P.cellsOf f.type)))
    (h : fs[i]? = some f) (hT : f.type = T) (hc : P.cellsOf T = k) (hd : (cs.drop f.offset).take k = ds) : RdS enc P w T ds := by
  have g := hf i f h
  rw [hT, hc, hd] at g
  exact g
theorem rds_slice (ht : P.underlying t = some (.slice e)) (h : RdS enc P w t cs) :
    cs = [.slice none 0 0] ∨ ∃ a len cap, cs = [.slice (some a) len cap] ∧ len ≤ cap ∧ cap ≤ 9223372036854775807 ∧ len * P.bytesOf e ≤ 140737488355328 ∧
      ∀ i, i < len → ∃ r : List Value, r.length = P.cellsOf e ∧ RdS enc P w e r ∧ ∀ j, j < P.cellsOf e → w.cell? (a.add (i * P.cellsOf e + j)) = r[j]? := by
  obtain ⟨f, x, h, hw⟩ := h
  rcases DataW.trod_slice ht h with ⟨h, _⟩ | ⟨a, len, cap, elems, rest, n, _, h1, hx, _, h2, h3, h4, h5, _⟩
  · exact .inl h
  · refine .inr ⟨a, len, cap, h1, h2, by simpa [maxLen] using h3, ?_, fun i hi => ?_⟩
    · have h9 := hw (((elems.map (·.1)).length + (rest.map (·.1)).length) * P.bytesOf e) (by rw [hx]; simp [DataW.weights, ht])
      have h8 : len * P.bytesOf e ≤ ((elems.map (·.1)).length + (rest.map (·.1)).length) * P.bytesOf e := Nat.mul_le_mul_right _ (by rw [List.length_map]; omega)
      have := reachBytes_lt
      omega
    · have hb := h5 i hi
      rw [List.getElem?_eq_getElem (by omega)] at hb
      obtain ⟨r, hr, hd⟩ := Option.bind_eq_some_iff.1 hb
      obtain ⟨_, g1, g2⟩ := World.cells?_some hr
      refine ⟨r, g1, ⟨n, _, hd, fun m hm => hw m ?_⟩, fun j hj => ?_⟩
      · rw [hx]
        simp only [DataW.weights, ht]
        refine List.mem_cons_of_mem _ (List.mem_append_left _ (mem_all (d := (elems[i]'(by omega)).1) ?_ m hm))
        exact List.mem_map.2 ⟨_, List.getElem_mem _, rfl⟩
      · rw [← g2 j hj, Addr.add_add]
theorem rds_rows {α : Type} {f : α → List Value} {Good : α → Prop} {sz : Nat} (ht : P.underlying t = some (.slice e)) (hc : P.cellsOf e = sz) (h0 : 0 < sz) (hf : ∀ a, (f a).length = sz)
    (each : ∀ r, RdS enc P w e r → ∃ a, r = f a ∧ Good a) (h : RdS enc P w t cs) : ∃ (v : Value) (l : List α), cs = [v] ∧ Sl [Hp.of w] sz v l.length (l.flatMap f) ∧ (∀ a ∈ l, Good a) ∧ l.length * P.bytesOf e ≤ 140737488355328 := by
  subst hc
  rcases rds_slice ht h with rfl | ⟨a, len, cap, rfl, h1, h2, hby, h3⟩
  · exact ⟨_, [], rfl, ⟨none, 0, rfl, Nat.le_refl _, by omega, by simp, fun g => by simp at g⟩, fun a ha => (by cases ha), by simp⟩
  · have key : ∀ k, k ≤ len → ∃ l : List α, l.length = k ∧ (∀ a ∈ l, Good a) ∧ ∀ i v, (l.flatMap f)[i]? = some v → w.cell? (a.add i) = some v := by
      intro k
      induction k with
      | zero => intro _; exact ⟨[], rfl, fun a ha => (by cases ha), fun i v hv => by simp at hv⟩
      | succ k ih =>
        intro hk
        obtain ⟨l, hl, hg, hcell⟩ := ih (by omega)
        obtain ⟨r, hr, hd, hrc⟩ := h3 k (by omega)
        obtain ⟨y, rfl, hy⟩ := each r hd
        refine ⟨l ++ [y], by simp [hl], fun a ha => ?_, fun i v hv => ?_⟩
        · rcases List.mem_append.1 ha with g | g
          · exact hg a g
          · rw [List.mem_singleton.1 g]; exact hy
        · rw [List.flatMap_append, List.flatMap_cons, List.flatMap_nil, List.append_nil] at hv
          have hlen := flat_len hf l
          rcases Nat.lt_or_ge i (l.flatMap f).length with g | g
          · rw [List.getElem?_append_left g] at hv; exact hcell i v hv
          · rw [List.getElem?_append_right g] at hv
            have hj : i - (l.flatMap f).length < P.cellsOf e := by rw [← hr]; exact (List.getElem?_eq_some_iff.1 hv).1
            have := hrc (i - (l.flatMap f).length) hj
            rw [hv] at this
            rw [← this]; congr 2
            rw [hlen, hl] at g hj ⊢; omega
    obtain ⟨l, hl, hg, hcell⟩ := key len (Nat.le_refl _)
    refine ⟨_, l, rfl, ⟨some a, cap, by rw [hl], by omega, h2, flat_len hf l, fun g => ?_⟩, hg, by rw [hl]; exact hby⟩
    obtain ⟨b, off, rfl, hc⟩ := cells_row (w := w) (x := a) (vs := l.flatMap f) (by rw [flat_len hf l]; exact Nat.mul_pos g h0) hcell
    exact ⟨b, off, rfl, hc⟩
theorem rds_row1 {α : Type} {f : α → Value} {Good : α → Prop} (ht : P.underlying t = some (.slice e)) (hc : P.cellsOf e = 1)
    (each : ∀ r, RdS enc P w e r → ∃ a, r = [f a] ∧ Good a) (h : RdS enc P w t cs) : ∃ (v : Value) (l : List α), cs = [v] ∧ Sl [Hp.of w] 1 v l.length (l.map f) ∧ (∀ a ∈ l, Good a) ∧ l.length * P.bytesOf e ≤ 140737488355328 := by
  obtain ⟨v, l, h1, h2, h3⟩ := rds_rows (f := fun a => [f a]) ht hc (by omega) (fun _ => rfl) each h
  exact ⟨v, l, h1, by rw [flat_one] at h2; exact h2, h3⟩
theorem rds_strings (ht : P.underlying t = some (.slice e)) (he : P.underlying e = some .string) (hc : P.cellsOf e = 1) (h : RdS enc P w t cs) : ∃ (v : Value) (l : List (List UInt8)), cs = [v] ∧ Sl [Hp.of w] 1 v l.length (l.map sV) ∧ (∀ a ∈ l, a.length ≤ 140737488355328) ∧ l.length * P.bytesOf e ≤ 140737488355328 :=
  rds_row1 (f := sV) ht hc (fun r hr => rds_string he hr) h
end
end Go.Q
namespace Go.Q
structure DAct where
  kind : Int
  n : Int
  other : Bool
  dv : Value
  data : List Bs
  kv : Value
  keep : List Int
def daC (a : DAct) : List Value := [iV a.kind, iV a.n, .bool a.other, a.dv, a.kv]
theorem daC_len (a : DAct) : (daC a).length = 5 := rfl
/-- An act whose rows read. -/
def DaOk (R : List Hp) (a : DAct) : Prop := Sl R 1 a.dv a.data.length (a.data.map sV) ∧ Ints R a.kv a.keep ∧ (∀ t ∈ a.data, t.length ≤ 140737488355328) ∧ -9223372036854775808 ≤ a.n ∧ a.n ≤ 9223372036854775807
theorem DaOk.mono {R R' : List Hp} {a : DAct} (h : DaOk R a) (hs : R ⊆ R') : DaOk R' a := ⟨h.1.mono hs, h.2.1.mono hs, h.2.2⟩
/-- An act that is not too great. -/
def DFin (a : DAct) : Prop := a.data.length ≤ 6 ∧ a.data.flatten.length ≤ 200 ∧ a.keep.length ≤ 40
def DFine (l : List DAct) : Prop := l.length ≤ 60 ∧ ∀ a ∈ l, DFin a
theorem DFine.snoc {l : List DAct} {k : Nat} {x : DAct} (h : ∀ a ∈ l.take k, DFin a) (hx : l[k]? = some x) (hf : DFin x) : ∀ a ∈ l.take (k + 1), DFin a := by
  rw [List.take_add_one, hx]
  intro y hy
  rcases List.mem_append.1 hy with g | g
  · exact h y g
  · simp at g; rw [g]; exact hf
theorem flatten_take_succ {l : List Bs} {k : Nat} {x : Bs} (hx : l[k]? = some x) : (l.take (k + 1)).flatten = (l.take k).flatten ++ x := by
  rw [List.take_add_one, hx]; simp
theorem flatten_le {l : List Bs} {B : Nat} (h : ∀ t ∈ l, t.length ≤ B) : l.flatten.length ≤ l.length * B := by
  induction l with
  | nil => simp
  | cons a l ih =>
    have := ih fun t ht => h t (List.mem_cons_of_mem _ ht)
    have := h a List.mem_cons_self
    simp only [List.flatten_cons, List.length_append, List.length_cons, Nat.add_mul, Nat.one_mul]; omega
end Go.Q
namespace Go.Q
structure AAct where
  kind : Int
  at_ : Int
  size : Int
  dv : Value
  data : List Bs
  kv : Value
  keep : List Int
def aaC (a : AAct) : List Value := [iV a.kind, iV a.at_, iV a.size, a.dv, a.kv]
theorem aaC_len (a : AAct) : (aaC a).length = 5 := rfl
def AaOk (R : List Hp) (a : AAct) : Prop := Sl R 1 a.dv a.data.length (a.data.map sV) ∧ Ints R a.kv a.keep ∧ (∀ t ∈ a.data, t.length ≤ 140737488355328)
theorem AaOk.mono {R R' : List Hp} {a : AAct} (h : AaOk R a) (hs : R ⊆ R') : AaOk R' a := ⟨h.1.mono hs, h.2.1.mono hs, h.2.2⟩
def AFin (a : AAct) : Prop := a.data.length ≤ 6 ∧ a.data.flatten.length ≤ 2000 ∧ a.keep.length ≤ 40
def AFine (l : List AAct) : Prop := l.length ≤ 30 ∧ ∀ a ∈ l, AFin a
theorem AFine.snoc {l : List AAct} {k : Nat} {x : AAct} (h : ∀ a ∈ l.take k, AFin a) (hx : l[k]? = some x) (hf : AFin x) : ∀ a ∈ l.take (k + 1), AFin a := by
  rw [List.take_add_one, hx]
  intro y hy
  rcases List.mem_append.1 hy with g | g
  · exact h y g
  · simp at g; rw [g]; exact hf
theorem full_blank (k : Nat) : Full64 (List.replicate k blankS) := fun s hs => by rw [(List.mem_replicate.1 hs).2]; rfl
/-- What is set in one area leaves what is got of another one. -/
theorem apart_get {la : List Bs} {lo : List (Int × Bs)} {all : Bs} {f1 n1 a1 s1 f2 n2 a2 s2 : Int} (hn1 : 0 < n1) (hn2 : 0 < n2) (h0 : 0 ≤ f1) (h : f1 + n1 ≤ f2) :
    getP la (setP la (allP f2 (n2 * 64) (a2 % (n2 * 64)) s2) lo all) (allP f1 (n1 * 64) (a1 % (n1 * 64)) s1) = getP la lo (allP f1 (n1 * 64) (a1 % (n1 * 64)) s1) := by
  refine getP_congr fun p hp => ?_
  have hp1 := pieces_ok hn1 _ _ _ (Int.emod_nonneg _ (by omega)) (Int.emod_lt_of_pos _ (by omega)) p hp
  refine setP_other _ _ _ fun q hq => ?_
  have hq1 := pieces_ok hn2 _ _ _ (Int.emod_nonneg _ (by omega)) (Int.emod_lt_of_pos _ (by omega)) q hq
  unfold PcOk at hp1 hq1
  omega
end Go.Q
namespace Go.Q
/-- the bytes of an area, told by a row -/
def Cn (now : Bs) (la : List Bs) (lo : List (Int × Bs)) (fr n : Nat) : Prop := now.length = n * 64 ∧ ∀ i, i < n * 64 → now[i]? = (nowAt la lo (fr + i / 64))[i % 64]?
def rdR (now : Bs) (a L k : Nat) : Bs := (List.range k).map fun j => (now[(a + j) % L]?).getD 0
def wrR (now : Bs) (a L : Nat) (s : Bs) (k : Nat) : Bs := (List.range k).foldl (fun c j => c.set ((a + j) % L) ((s[j]?).getD 0)) now
theorem rdR_succ (now : Bs) (a L k : Nat) : rdR now a L (k + 1) = rdR now a L k ++ [(now[(a + k) % L]?).getD 0] := by
  unfold rdR; rw [List.range_succ, List.map_append]; rfl
theorem wrR_succ (now : Bs) (a L : Nat) (s : Bs) (k : Nat) : wrR now a L s (k + 1) = (wrR now a L s k).set ((a + k) % L) ((s[k]?).getD 0) := by
  unfold wrR; rw [List.range_succ, List.foldl_append]; rfl
theorem wrR_len (now : Bs) (a L : Nat) (s : Bs) : ∀ k, (wrR now a L s k).length = now.length
  | 0 => rfl
  | k + 1 => by rw [wrR_succ, List.length_set, wrR_len]
theorem rdR_len (now : Bs) (a L k : Nat) : (rdR now a L k).length = k := by unfold rdR; simp
theorem rdR_add (now : Bs) (a L d : Nat) : ∀ k, rdR now a L (d + k) = rdR now a L d ++ rdR now ((a + d) % L) L k
  | 0 => by simp [rdR]
  | k + 1 => by
    rw [← Nat.add_assoc, rdR_succ, rdR_add now a L d k, rdR_succ, List.append_assoc]
    rw [show ((a + d) % L + k) % L = (a + (d + k)) % L by rw [Nat.mod_add_mod, Nat.add_assoc]]
theorem wrR_add (now : Bs) (a L : Nat) (s : Bs) (d : Nat) : ∀ k, wrR now a L s (d + k) = wrR (wrR now a L s d) ((a + d) % L) L (s.drop d) k
  | 0 => rfl
  | k + 1 => by
    rw [← Nat.add_assoc, wrR_succ, wrR_add now a L s d k, wrR_succ]
    rw [show ((a + d) % L + k) % L = (a + (d + k)) % L by rw [Nat.mod_add_mod, Nat.add_assoc], List.getElem?_drop]
theorem rdR_at (now : Bs) {a L k j : Nat} (hj : j < k) : (rdR now a L k)[j]? = some ((now[(a + j) % L]?).getD 0) := by
  unfold rdR; rw [List.getElem?_map, List.getElem?_range hj]; rfl
/-- bytes that don't go round -/
theorem wrR_at {now : Bs} {a L : Nat} {s : Bs} (hL : now.length = L) : ∀ k, a + k ≤ L → ∀ i, i < L → (wrR now a L s k)[i]? = if a ≤ i ∧ i < a + k then some ((s[i - a]?).getD 0) else now[i]?
  | 0, _, i, _ => by rw [if_neg (by omega)]; rfl
  | k + 1, hk, i, hi => by
    rw [wrR_succ, Nat.mod_eq_of_lt (by omega), List.getElem?_set, wrR_len]
    by_cases e : a + k = i
    · rw [if_pos e, if_pos (by omega), if_pos (by omega), ← e, Nat.add_sub_cancel_left]
    · rw [if_neg e, wrR_at hL k (by omega) i hi]
      by_cases g : a ≤ i ∧ i < a + k
      · rw [if_pos g, if_pos (by omega)]
      · rw [if_neg g, if_neg (by omega)]
theorem piece1_nat {fr a z : Nat} (hz : 0 < z) : piece1 (fr : Int) (a : Int) (z : Int) = ⟨((fr + a / 64 : Nat) : Int), ((a % 64 : Nat) : Int), ((min (a % 64 + z) 64 : Nat) : Int)⟩ := by
  unfold piece1; congr 1 <;> omega
def dN (a z : Nat) : Nat := min (a % 64 + z) 64 - a % 64
theorem dN_ok {a z : Nat} (hz : 0 < z) : 0 < dN a z ∧ dN a z ≤ z ∧ a % 64 + dN a z ≤ 64 ∧ min (a % 64 + z) 64 = a % 64 + dN a z := by
  unfold dN; omega
theorem pieces_nat {fr L a z f : Nat} (hz : 0 < z) : piecesS (fr : Int) (L : Int) (f + 1) (a : Int) (z : Int) = ⟨((fr + a / 64 : Nat) : Int), ((a % 64 : Nat) : Int), ((a % 64 + dN a z : Nat) : Int)⟩ :: piecesS (fr : Int) (L : Int) f (((a + dN a z) % L : Nat) : Int) ((z - dN a z : Nat) : Int) := by
  obtain ⟨h1, h2, h3, h4⟩ := dN_ok (a := a) hz
  rw [piecesS, if_neg (by omega), piece1_nat hz, h4]
  simp only
  rw [show (a : Int) + (((a % 64 + dN a z : Nat) : Int) - ((a % 64 : Nat) : Int)) = ((a + dN a z : Nat) : Int) by omega, show (z : Int) - (((a % 64 + dN a z : Nat) : Int) - ((a % 64 : Nat) : Int)) = ((z - dN a z : Nat) : Int) by omega]
  rfl
theorem ring_get {now : Bs} {la : List Bs} {lo : List (Int × Bs)} {fr n : Nat} (h : Cn now la lo fr n) (h64 : ∀ j, j < n → (nowAt la lo (fr + j)).length = 64) : ∀ (f a z : Nat), a < n * 64 → z ≤ f → getP la lo (piecesS (fr : Int) ((n * 64 : Nat) : Int) f (a : Int) (z : Int)) = rdR now a (n * 64) z
  | f, a, 0, _, _ => by cases f <;> rfl
  | 0, a, z + 1, _, h => by omega
  | f + 1, a, z + 1, ha, hf => by
    obtain ⟨h1, h2, h3, h4⟩ := dN_ok (a := a) (z := z + 1) (by omega)
    rw [pieces_nat (by omega)]
    have hr := ring_get h h64 f ((a + dN a (z + 1)) % (n * 64)) (z + 1 - dN a (z + 1)) (Nat.mod_lt _ (by omega)) (by omega)
    unfold getP at hr ⊢
    rw [List.flatMap_cons, hr]
    have hs : rdR now a (n * 64) (z + 1) = rdR now a (n * 64) (dN a (z + 1)) ++ rdR now ((a + dN a (z + 1)) % (n * 64)) (n * 64) (z + 1 - dN a (z + 1)) := by
      rw [← rdR_add]; congr 1; omega
    rw [hs]
    congr 1
    have hlen := h64 (a / 64) (by omega)
    unfold partP
    simp only [Int.toNat_natCast]
    refine List.ext_getElem? fun j => ?_
    rw [List.getElem?_drop, List.getElem?_take]
    by_cases hj : j < dN a (z + 1)
    · rw [if_pos (by omega), rdR_at now hj, Nat.mod_eq_of_lt (show a + j < n * 64 by omega), h.2 _ (by omega), show (a + j) / 64 = a / 64 by omega, show (a + j) % 64 = a % 64 + j by omega, List.getElem?_eq_getElem (by omega)]; rfl
    · rw [if_neg (by omega), List.getElem?_eq_none (by rw [rdR_len]; omega)]
theorem nowAt_put {la : List Bs} {lo : List (Int × Bs)} {s : Bs} {m j : Nat} : nowAt la (putB lo (m : Int) s) j = if j = m then s else nowAt la lo j := by
  unfold nowAt
  rw [getB_put]
  by_cases e : j = m
  · subst e; rw [if_pos rfl, if_pos rfl]; rfl
  · rw [if_neg (by omega), if_neg e]
theorem put1_len2 {la : List Bs} {lo : List (Int × Bs)} {m r d : Nat} {all : Bs} (hl : (nowAt la lo m).length = 64) (hd : r + d ≤ 64) (ha : d ≤ all.length) : (putA1 la lo ⟨(m : Int), (r : Int), ((r + d : Nat) : Int)⟩ all).length = 64 := by
  unfold putA1
  simp only [Int.toNat_natCast, List.length_append, List.length_take, List.length_drop, hl]; omega
theorem ring_set1 {now : Bs} {la : List Bs} {lo : List (Int × Bs)} {fr n a d : Nat} {all : Bs} (h : Cn now la lo fr n) (h64 : ∀ j, j < n → (nowAt la lo (fr + j)).length = 64) (ha : a < n * 64) (hd : a % 64 + d ≤ 64) (hal : d ≤ all.length) :
    Cn (wrR now a (n * 64) all d) la (putB lo ((fr + a / 64 : Nat) : Int) (fillS (putA1 la lo ⟨((fr + a / 64 : Nat) : Int), ((a % 64 : Nat) : Int), ((a % 64 + d : Nat) : Int)⟩ all))) fr n := by
  have hl := h64 (a / 64) (by omega)
  have hp := put1_len2 (la := la) (lo := lo) (all := all) hl hd hal
  have hfill : ∀ s : Bs, s.length = 64 → fillS s = s := fun s hs => by unfold fillS; rw [hs, List.drop_eq_nil_of_le (by rw [blank_len]; omega), List.append_nil]
  rw [hfill _ hp]
  refine ⟨by rw [wrR_len]; exact h.1, fun i hi => ?_⟩
  rw [wrR_at h.1 d (by omega) i hi, nowAt_put]
  by_cases e : i / 64 = a / 64
  · rw [if_pos (show fr + i / 64 = fr + a / 64 by omega)]
    unfold putA1
    simp only [Int.toNat_natCast]
    by_cases g : a ≤ i ∧ i < a + d
    · rw [if_pos g, List.getElem?_append_right (by rw [List.length_take]; omega), List.length_take, hl, List.getElem?_append_left (by rw [List.length_take]; omega), List.getElem?_take, if_pos (by omega)]
      rw [show i % 64 - min (a % 64) 64 = i - a by omega, List.getElem?_eq_getElem (by omega)]; rfl
    · rw [if_neg g, h.2 i hi, e]
      by_cases g2 : i < a
      · rw [List.getElem?_append_left (by rw [List.length_take]; omega), List.getElem?_take, if_pos (by omega)]
      · rw [List.getElem?_append_right (by rw [List.length_take]; omega), List.length_take, hl, List.getElem?_append_right (by rw [List.length_take]; omega), List.length_take, List.getElem?_drop]
        congr 1; omega
  · rw [if_neg (show ¬ (a ≤ i ∧ i < a + d) by omega), if_neg (show ¬ fr + i / 64 = fr + a / 64 by omega), h.2 i hi]
theorem ring_set {la : List Bs} {fr n : Nat} : ∀ (f a : Nat) (z : Nat) (now : Bs) (lo : List (Int × Bs)) (all : Bs), Cn now la lo fr n → (∀ j, j < n → (nowAt la lo (fr + j)).length = 64) → a < n * 64 → z ≤ f → z ≤ all.length →
    Cn (wrR now a (n * 64) all z) la (setP la (piecesS (fr : Int) ((n * 64 : Nat) : Int) f (a : Int) (z : Int)) lo all) fr n
  | f, a, 0, now, lo, all, h, _, _, _, _ => by cases f <;> exact h
  | 0, a, z + 1, _, _, _, _, _, _, h, _ => by omega
  | f + 1, a, z + 1, now, lo, all, h, h64, ha, hf, hz => by
    obtain ⟨h1, h2, h3, h4⟩ := dN_ok (a := a) (z := z + 1) (by omega)
    rw [pieces_nat (by omega), setP]
    have hs : wrR now a (n * 64) all (z + 1) = wrR (wrR now a (n * 64) all (dN a (z + 1))) ((a + dN a (z + 1)) % (n * 64)) (n * 64) (all.drop (dN a (z + 1))) (z + 1 - dN a (z + 1)) := by
      rw [← wrR_add]; congr 1; omega
    rw [hs]
    simp only
    rw [show (((a % 64 + dN a (z + 1) : Nat) : Int) - ((a % 64 : Nat) : Int)).toNat = dN a (z + 1) by omega]
    refine ring_set f _ _ _ _ _ (ring_set1 h h64 ha h3 (by omega)) (fun j hj => ?_) (Nat.mod_lt _ (by omega)) (by omega) (by rw [List.length_drop]; omega)
    rw [nowAt_put]
    split
    · rw [fill_len (by rw [put1_len2 (h64 _ (by omega)) h3 (by omega)]; omega)]
    · exact h64 j hj
theorem area_now (la : List Bs) (lo : List (Int × Bs)) (fr n : Nat) (h64 : ∀ j, j < n → (nowAt la lo (fr + j)).length = 64) : ∃ now, Cn now la lo fr n := by
  refine ⟨(List.range (n * 64)).map fun i => ((nowAt la lo (fr + i / 64))[i % 64]?).getD 0, by simp, fun i hi => ?_⟩
  have hl := h64 (i / 64) (by omega)
  rw [List.getElem?_map, List.getElem?_range hi, Option.map_some, List.getElem?_eq_getElem (by omega)]; rfl
theorem area_64 {la : List Bs} {lo : List (Int × Bs)} (h64 : Full64 la) (hlo : LoOk lo la.length) {fr n : Int} (hfr : 0 ≤ fr) (hn : 1 ≤ n) (hfn : fr + n ≤ la.length) : ∀ j, j < n.toNat → (nowAt la lo (fr.toNat + j)).length = 64 := fun j hj => nowAt_len h64 hlo (by omega)
theorem getP_now {now : Bs} {la : List Bs} {lo : List (Int × Bs)} {fr n a z : Int} (h : Cn now la lo fr.toNat n.toNat) (h64 : ∀ j, j < n.toNat → (nowAt la lo (fr.toNat + j)).length = 64) (hfr : 0 ≤ fr) (hn : 1 ≤ n) (ha : 0 ≤ a ∧ a < n * 64) (hz : 0 ≤ z) :
    getP la lo (allP fr (n * 64) a z) = rdR now a.toNat (n.toNat * 64) z.toNat := by
  have := ring_get h h64 z.toNat a.toNat z.toNat (by omega) (Nat.le_refl _)
  unfold allP
  rw [show ((n.toNat * 64 : Nat) : Int) = n * 64 by omega, show ((fr.toNat : Nat) : Int) = fr by omega, show ((a.toNat : Nat) : Int) = a by omega, show ((z.toNat : Nat) : Int) = z by omega] at this
  exact this
theorem getP_len {la : List Bs} {lo : List (Int × Bs)} {fr n a z : Int} (h64 : Full64 la) (hlo : LoOk lo la.length) (hfr : 0 ≤ fr) (hn : 1 ≤ n) (hfn : fr + n ≤ la.length) (ha : 0 ≤ a ∧ a < n * 64) (hz : 0 ≤ z) : (getP la lo (allP fr (n * 64) a z)).length = z.toNat := by
  obtain ⟨now, h⟩ := area_now la lo fr.toNat n.toNat (area_64 h64 hlo hfr hn hfn)
  rw [getP_now h (area_64 h64 hlo hfr hn hfn) hfr hn ha hz, rdR_len]
theorem rdR_all {now : Bs} {L : Nat} (h : now.length = L) : rdR now 0 L L = now := by
  refine List.ext_getElem? fun i => ?_
  by_cases hi : i < L
  · rw [rdR_at now hi, Nat.zero_add, Nat.mod_eq_of_lt hi, List.getElem?_eq_getElem (by omega)]; rfl
  · rw [List.getElem?_eq_none (by rw [rdR_len]; omega), List.getElem?_eq_none (by omega)]
theorem getP_all {now : Bs} {la : List Bs} {lo : List (Int × Bs)} {fr n : Int} (h : Cn now la lo fr.toNat n.toNat) (h64 : ∀ j, j < n.toNat → (nowAt la lo (fr.toNat + j)).length = 64) (hfr : 0 ≤ fr) (hn : 1 ≤ n) : getP la lo (allP fr (n * 64) (0 % (n * 64)) (n * 64)) = now := by
  rw [Int.zero_emod, getP_now h h64 hfr hn ⟨by omega, by omega⟩ (by omega), show (n * 64).toNat = n.toNat * 64 by omega]
  exact rdR_all h.1
theorem setP_now {now : Bs} {la : List Bs} {lo : List (Int × Bs)} {fr n a : Int} {all : Bs} (h : Cn now la lo fr.toNat n.toNat) (h64 : ∀ j, j < n.toNat → (nowAt la lo (fr.toNat + j)).length = 64) (hfr : 0 ≤ fr) (hn : 1 ≤ n) (ha : 0 ≤ a ∧ a < n * 64) :
    Cn (wrR now a.toNat (n.toNat * 64) all all.length) la (setP la (allP fr (n * 64) a (all.length : Int)) lo all) fr.toNat n.toNat := by
  have := ring_set (la := la) (fr := fr.toNat) (n := n.toNat) all.length a.toNat all.length now lo all h h64 (by omega) (Nat.le_refl _) (Nat.le_refl _)
  unfold allP
  rw [show ((n.toNat * 64 : Nat) : Int) = n * 64 by omega, show ((fr.toNat : Nat) : Int) = fr by omega, show ((a.toNat : Nat) : Int) = a by omega] at this
  exact this
theorem setP_out {la : List Bs} {lo : List (Int × Bs)} {fr n a : Int} {all : Bs} {j : Nat} (hn : 1 ≤ n) (ha : 0 ≤ a ∧ a < n * 64) (hj : (j : Int) < fr ∨ fr + n ≤ (j : Int)) : nowAt la (setP la (allP fr (n * 64) a (all.length : Int)) lo all) j = nowAt la lo j :=
  setP_other _ _ _ fun p hp => by
    obtain ⟨h1, h2, _⟩ := pieces_ok (fr := fr) (n := n) (by omega) _ _ _ ha.1 ha.2 p hp
    omega
theorem cn_congr {now : Bs} {la la' : List Bs} {lo lo' : List (Int × Bs)} {fr n : Nat} (h : Cn now la lo fr n) (he : ∀ j, nowAt la' lo' j = nowAt la lo j) : Cn now la' lo' fr n := ⟨h.1, fun i hi => by rw [he]; exact h.2 i hi⟩
theorem cn_blank {k fr n : Nat} (h : fr + n ≤ k) : Cn (List.replicate (n * 64) 0) (List.replicate k blankS) [] fr n := by
  refine ⟨by rw [List.length_replicate], fun i hi => ?_⟩
  unfold nowAt
  rw [show getB ([] : List (Int × Bs)) ((fr + i / 64 : Nat) : Int) = none from rfl, Option.getD_none, List.getElem?_replicate, if_pos hi, List.getElem?_replicate, if_pos (by omega)]
  show some 0 = (List.replicate 64 (0 : UInt8))[i % 64]?
  rw [List.getElem?_replicate, if_pos (by omega)]
/-- behind a Sync the sectors are as they were -/
theorem sync_nowAt {p : Pw} {k : Nat} (h : Calm p k) {la : List Bs} {lo : List (Int × Bs)} (hlo : LoOk lo la.length) (j : Nat) (hj : j < la.length) : nowAt (syncA p la lo) (syncO p lo) j = nowAt la lo j := by
  obtain ⟨_, h1, h2⟩ := sync_calm h la lo
  rw [h1, h2, now_sync hlo]
  show Option.getD none _ = _
  rw [Option.getD_none, now_get hj]; rfl
theorem sync_len {p : Pw} {k : Nat} (h : Calm p k) {la : List Bs} {lo : List (Int × Bs)} (hlo : LoOk lo la.length) : (syncA p la lo).length = la.length := by
  obtain ⟨_, h1, _⟩ := sync_calm h la lo
  rw [h1, now_sync hlo, now_len]
theorem cn_sync {p : Pw} {k : Nat} (h : Calm p k) {now : Bs} {la : List Bs} {lo : List (Int × Bs)} (hlo : LoOk lo la.length) {fr n : Nat} (hfn : fr + n ≤ la.length) (hc : Cn now la lo fr n) : Cn now (syncA p la lo) (syncO p lo) fr n :=
  ⟨hc.1, fun i hi => by rw [sync_nowAt h hlo _ (by omega)]; exact hc.2 i hi⟩
theorem full_sync {p : Pw} {k : Nat} (h : Calm p k) {la : List Bs} {lo : List (Int × Bs)} (hlo : LoOk lo la.length) (hf : Full64 la) : Full64 (syncA p la lo) := by
  obtain ⟨_, h1, _⟩ := sync_calm h la lo
  rw [h1, now_sync hlo]
  intro s hs
  obtain ⟨j, hj, rfl⟩ := List.mem_map.1 hs
  exact nowAt_len hf hlo (List.mem_range.1 hj)
theorem ok_sync {p : Pw} {k : Nat} (h : Calm p k) {la : List Bs} {lo : List (Int × Bs)} : LoOk (syncO p lo) (syncA p la lo).length := by
  obtain ⟨_, _, h2⟩ := sync_calm h la lo
  rw [h2]; exact LoOk.nil _
theorem idxN {a n : Int} {kk : Nat} (ha : 0 ≤ a) (hn : 1 ≤ n) : ((a % (64 * n) + (kk : Int)) % (64 * n)).toNat = ((a % (n * 64)).toNat + kk) % (n.toNat * 64) := by
  rw [show 64 * n = n * 64 by omega, Int.toNat_emod (by have := Int.emod_nonneg a (show n * 64 ≠ 0 by omega); omega) (by omega), show (n * 64).toNat = n.toNat * 64 by omega]
  congr 1
  have := Int.emod_nonneg a (show n * 64 ≠ 0 by omega)
  omega
theorem wr_step {now nb s : Bs} {a L kk ix : Nat} {c : UInt8} (h : nb = wrR now a L s kk) (hi : ix = (a + kk) % L) (hc : s[kk]? = some c) : nb.set ix c = wrR now a L s (kk + 1) := by
  rw [wrR_succ, ← h, hi, hc]; rfl
theorem rd_step {now acc : Bs} {a L kk ix : Nat} {c : UInt8} (h : acc = rdR now a L kk) (hi : ix = (a + kk) % L) (hc : now[ix]? = some c) : acc ++ [c] = rdR now a L (kk + 1) := by
  rw [rdR_succ, ← h, ← hi, hc]; rfl
end Go.Q
namespace Go.Q
open Go.Proofs Go.Shelf
set_option maxRecDepth 100000
def trl_ren : Go.Shelf.Ren := ⟨fun | 160 => 46 | 232 => 71 | 231 => 70 | 227 => 72 | 234 => 74 | 233 => 73 | 236 => 76 | 235 => 75 | 228 => 85 | 271 => 88 | 151 => 87 | 197 => 86 | 120 => 95 | 152 => 94 | 260 => 93 | 137 => 99 | 119 => 100 | 224 => 101 | 225 => 102 | 217 => 106 | 266 => 118 | n => n, fun | 9 => 9 | 4 => 4 | 3 => 3 | 5 => 5 | 117 => 117 | 116 => 116 | 0 => 0 | 124 => 120 | 21 => 21 | 105 => 130 | 46 => 36 | 119 => 142 | 139 => 145 | 138 => 144 | n => n, fun | 3 => 2 | 4 => 3 | n => n⟩
theorem trl : Go.Proofs.Lays.n160 Tryz.prog trl_ren := {
  mixed := by kernel_rfl
  f119 := Tryz.func100.trans (congrArg some (by kernel_rfl))
  f120 := Tryz.func95.trans (congrArg some (by kernel_rfl))
  f137 := Tryz.func99.trans (congrArg some (by kernel_rfl))
  f151 := Tryz.func87.trans (congrArg some (by kernel_rfl))
  f152 := Tryz.func94.trans (congrArg some (by kernel_rfl))
  f160 := Tryz.func46.trans (congrArg some (by kernel_rfl))
  f197 := Tryz.func86.trans (congrArg some (by kernel_rfl))
  f217 := Tryz.func106.trans (congrArg some (by kernel_rfl))
  f224 := Tryz.func101.trans (congrArg some (by kernel_rfl))
  f225 := Tryz.func102.trans (congrArg some (by kernel_rfl))
  f227 := Tryz.func72.trans (congrArg some (by kernel_rfl))
  f228 := Tryz.func85.trans (congrArg some (by kernel_rfl))
  f231 := Tryz.func70.trans (congrArg some (by kernel_rfl))
  f232 := Tryz.func71.trans (congrArg some (by kernel_rfl))
  f233 := Tryz.func73.trans (congrArg some (by kernel_rfl))
  f234 := Tryz.func74.trans (congrArg some (by kernel_rfl))
  f235 := Tryz.func75.trans (congrArg some (by kernel_rfl))
  f236 := Tryz.func76.trans (congrArg some (by kernel_rfl))
  f260 := Tryz.func93.trans (congrArg some (by kernel_rfl))
  f266 := Tryz.func118.trans (congrArg some (by kernel_rfl))
  f271 := Tryz.func88.trans (congrArg some (by kernel_rfl))
  t0 := Tryz.underlying0
  a0 := Tryz.isAgg0
  z0 := Tryz.sizeOf0
  v0 := Tryz.zeroValue0
  t3 := Tryz.underlying3
  a3 := Tryz.isAgg3
  z3 := Tryz.sizeOf3
  v3 := Tryz.zeroValue3
  t4 := Tryz.underlying4
  a4 := Tryz.isAgg4
  z4 := Tryz.sizeOf4
  v4 := Tryz.zeroValue4
  t5 := Tryz.underlying5
  a5 := Tryz.isAgg5
  z5 := Tryz.sizeOf5
  v5 := Tryz.zeroValue5
  t9 := Tryz.underlying9
  a9 := Tryz.isAgg9
  z9 := Tryz.sizeOf9
  v9 := Tryz.zeroValue9
  t21 := Tryz.underlying21
  a21 := Tryz.isAgg21
  z21 := Tryz.sizeOf21
  v21 := Tryz.zeroValue21
  t46 := Tryz.underlying36
  a46 := Tryz.isAgg36
  z46 := Tryz.sizeOf36
  v46 := Tryz.zeroValue36
  t105 := Tryz.underlying130
  a105 := Tryz.isAgg130
  z105 := Tryz.sizeOf130
  v105 := Tryz.zeroValue130
  t116 := Tryz.underlying116
  a116 := Tryz.isAgg116
  z116 := Tryz.sizeOf116
  t117 := Tryz.underlying117
  a117 := Tryz.isAgg117
  z117 := Tryz.sizeOf117
  v117 := Tryz.zeroValue117
  t119 := Tryz.underlying142
  a119 := Tryz.isAgg142
  z119 := Tryz.sizeOf142
  t124 := Tryz.underlying120
  a124 := Tryz.isAgg120
  z124 := Tryz.sizeOf120
  v124 := Tryz.zeroValue120
  t138 := Tryz.underlying144
  a138 := Tryz.isAgg144
  z138 := Tryz.sizeOf144
  v138 := Tryz.zeroValue144
  t139 := Tryz.underlying145
  a139 := Tryz.isAgg145
  z139 := Tryz.sizeOf145
  v139 := Tryz.zeroValue145
  g3 := by kernel_rfl
  g4 := by kernel_rfl }

theorem strim_c {E w : World} {R : List Hp} (hH : Has E w [R]) (s : Bs) (hs : s.length ≤ 1000000) : Calls Tryz.prog 46 #[S s, S [0]] w fun e w' => e = .returned (S (Lib.trimB s 0)) ∧ Has E w' [R] := by
  refine (Any.strings_Trim_one trl ⟨s.toArray⟩ 0 (by decide) w (by simp only [ByteArray.size, List.size_toArray]; omega)).mono fun e w' h => ?_
  obtain ⟨h1, h2⟩ := h
  refine ⟨by rw [h1]; rfl, ?_⟩
  rcases h2 with h2 | h2
  · rw [h2]; exact hH
  · rw [h2]; exact Has0.drew hH _
theorem dropZ {s : Bs} : s.dropWhile (· == 0) = [] ↔ ∀ b ∈ s, b = 0 := by
  induction s with
  | nil => simp
  | cons x t ih =>
    rw [List.dropWhile_cons]
    by_cases h : x = 0
    · rw [if_pos (by simpa using h), ih]; simp [h]
    · rw [if_neg (by simpa using h)]; simp [h]
theorem trim_zero {s : Bs} : Lib.trimB s 0 = [] ↔ s = List.replicate s.length 0 := by
  unfold Lib.trimB Lib.trimLeftB Lib.trimRightB
  rw [dropZ, List.eq_replicate_iff]
  constructor
  · intro h
    refine ⟨rfl, ?_⟩
    have h1 : ∀ b ∈ s.reverse.dropWhile (· == 0), b = 0 := fun b hb => h b (List.mem_reverse.2 hb)
    have h2 : s.reverse.dropWhile (· == 0) = [] := by
      cases e : s.reverse.dropWhile (· == 0) with
      | nil => rfl
      | cons x t =>
        have hx := h1 x (by rw [e]; exact List.mem_cons_self ..)
        have hn := List.head?_dropWhile_not (fun b : UInt8 => b == 0) s.reverse
        rw [e] at hn
        simp [hx] at hn
    intro b hb
    exact dropZ.1 h2 b (List.mem_reverse.2 hb)
  · rintro ⟨_, h⟩ b hb
    have := (List.dropWhile_sublist _).subset (List.mem_reverse.1 hb)
    exact h b (List.mem_reverse.1 this)
end Go.Q
namespace Go.Q
open Go.Proofs
set_option linter.unusedVariables false
set_option maxRecDepth 100000
attribute [local irreducible] wpList OK Code.wp
theorem blG_step {la : List Bs} {x : Int} {i : Nat} {bl : Bool} {rd : Bs} (h : blG la x i = bl) (hs : rd = sec la (x + (i : Int))) (hl : rd.length = 64) : blG la x (i + 1) = (bl && decide (Lib.trimB rd 0 = [])) := by
  show (blG la x i && blankB (sec la (x + (i : Int)))) = _
  rw [h, ← hs]
  congr 1
  unfold blankB
  rw [decide_eq_decide, trim_zero, hl]
set_option maxHeartbeats 4000000 in
theorem hload_c {E w : World} {R sg : List Hp} {pb db : Nat} {p : Pw} {la : List Bs} (hH : Has E w [sg, [Hp.one pb (.cells #[(.bool p.off), (.bool p.armed), (.int .i64 p.left), (.int .i64 p.uses)] 78 (0, 0))], R]) (hd : DevAt pb sg db la []) (hg : CellsAt R 0 0 nibV) (h64 : Full64 la) (hla : la.length ≤ 4096) (x : Int) :
    Calls Tryz.prog 19 #[(.pointer (some ⟨db, 0, none⟩)), (.int .i64 x)] w fun e w' => e = .returned (.tuple #[.agg #[(.int .i64 (ldH p la x).seq), (.int .i64 (ldH p la x).ep), (.int .i64 (ldH p la x).cut), (.int .i64 (ldH p la x).st), (.int .i64 (ldH p la x).mrk)], .int .i64 (ldE p la x)]) ∧ Has E w' [sg, [Hp.one pb (.cells #[(.bool p.off), (.bool p.armed), (.int .i64 p.left), (.int .i64 p.uses)] 78 (0, 0))], R] := by
  refine c_enter (args := [(.pointer (some ⟨db, 0, none⟩)), (.int .i64 x)]) Tryz.func19 rfl Tryz.ntmps19 (by simp) ?_
  refine wp_seq_k fun K1 hK1 => ?_
  refine c_region ?_
  refine s_op (o_alloc (cs := #[(.int .i64 0), (.int .i64 0), (.int .i64 0), (.int .i64 0), (.int .i64 0)]) ti27 rfl hH fun b2 w3 hH4 => ?_)
  refine s_op (o_assign (v := (.int .i64 0)) rfl ?_)
  refine s_nil ?_
  refine t_norm (hK1 _ _ ?_)
  refine wp_seq_k fun K5 hK5 => ?_
  refine wp_seq_k fun K6 hK6 => ?_
  refine c_region ?_
  refine s_op (o_move (v := (.pointer (some ⟨db, 0, none⟩))) rfl ?_)
  refine s_op (o_move (v := (.int .i64 x)) rfl ?_)
  refine s_op (o_callf (vs := #[(.pointer (some ⟨db, 0, none⟩)), (.int .i64 x)]) ca45 rfl (args2 rfl rfl) (there_c ((hH4.front 2 rfl).front 2 rfl).all2 hd x) ?_)
  rintro _ w9 ⟨rfl, hX7⟩
  refine ⟨_, rfl, ?_⟩
  have hH8 : Has E w9 [sg, [Hp.one pb (.cells #[(.bool p.off), (.bool p.armed), (.int .i64 p.left), (.int .i64 p.uses)] 78 (0, 0))], [Hp.one b2 (.cells #[(.int .i64 0), (.int .i64 0), (.int .i64 0), (.int .i64 0), (.int .i64 0)] 27 (0, 0))], R] := hX7.of_all2
  refine s_op (o_assign (v := (.int .i64 (thE p la.length x))) rfl ?_)
  refine s_nil ?_
  refine t_norm (hK6 _ _ ?_)
  refine wp_seq_k fun K10 hK10 => ?_
  refine c_region ?_
  refine s_op (o_move (v := (.int .i64 (thE p la.length x))) rfl ?_)
  refine s_op (o_neq (a := thE p la.length x) (b := 0) rfl rfl ?_)
  refine s_nil ?_
  refine t_norm (hK10 _ _ ?_)
  refine c_cond rfl (fun h11 => ?_) (fun h11 => ?_)
  · -- thE p la.length x ≠ 0
    refine wp_seq_k fun K12 hK12 => ?_
    refine c_region ?_
    refine s_op (o_sight (v := (.agg #[(.int .i64 0), (.int .i64 0), (.int .i64 0), (.int .i64 0), (.int .i64 0)])) (fun _ => by kernel_rfl) ?_)
    refine s_op (o_move (v := (.int .i64 (thE p la.length x))) rfl ?_)
    refine s_eff (o_storeN (vs := [(.int .i64 0), (.int .i64 0), (.int .i64 0), (.int .i64 0), (.int .i64 0)]) (c' := #[(.int .i64 0), (.int .i64 0), (.int .i64 0), (.int .i64 0), (.int .i64 0)]) ti27 rfl rfl rfl rfl (by intro u hu; simp only [List.mem_cons, List.not_mem_nil, or_false] at hu; rcases hu with rfl | rfl | rfl | rfl | rfl <;> first | rfl) (by simp) (by kernel_rfl) (hH8.front 2 rfl) fun w13 hH14 => ?_)
    refine s_op (o_assign (v := (.int .i64 (thE p la.length x))) rfl ?_)
    refine s_nil ?_
    refine t_norm (hK12 _ _ ?_)
    refine wp_ret ?_
    refine t_ret (c_retC2 Tryz.results19 rfl (run_loadVarN (cs := [(.int .i64 0), (.int .i64 0), (.int .i64 0), (.int .i64 0), (.int .i64 0)]) Tryz.underlying27 rfl ti27 hH14 (seg_sub 0 rfl) (CellsAt.one rfl)) (x := (.int .i64 (thE p la.length x))) rfl ?_)
    have hH15 : Has E w13 [sg, [Hp.one pb (.cells #[(.bool p.off), (.bool p.armed), (.int .i64 p.left), (.int .i64 p.uses)] 78 (0, 0))], R] := (((hH14.front 3 rfl).front 3 rfl).front 3 rfl).first 3 rfl
    obtain ⟨e1_, e2_⟩ := ld_th h11
    exact ⟨by rw [e1_, e2_]; rfl, hH15⟩
  · -- not: thE p la.length x ≠ 0
    have hth_ := thE_zero (Classical.not_not.1 h11)
    obtain ⟨hx1_, hx2_⟩ := hth_.1
    refine wp_skip ?_
    refine t_norm (hK5 _ _ ?_)
    refine wp_seq_k fun K16 hK16 => ?_
    refine c_region ?_
    refine s_op (o_alloc (cs := #[(.int .i64 0), (.int .i64 0), (.int .i64 0), (.int .i64 0), (.int .i64 0)]) ti27 rfl hH8 fun b17 w18 hH19 => ?_)
    refine s_nil ?_
    refine t_norm (hK16 _ _ ?_)
    refine wp_seq_k fun K20 hK20 => ?_
    refine c_region ?_
    refine s_op (o_assign (v := (.bool false)) rfl ?_)
    refine s_op (o_assign (v := (.bool true)) rfl ?_)
    refine s_nil ?_
    refine t_norm (hK20 _ _ ?_)
    refine wp_seq_k fun K21 hK21 => ?_
    refine wp_seq_k fun K22 hK22 => ?_
    refine c_region ?_
    refine s_op (o_move (v := (.int .i64 0)) rfl ?_)
    refine s_nil ?_
    refine t_norm (hK22 _ _ ?_)
    refine wp_block ?_
    have hH23 : Has E w18 [[Hp.one b17 (.cells #[(.int .i64 hdZ.seq), (.int .i64 hdZ.ep), (.int .i64 hdZ.cut), (.int .i64 hdZ.st), (.int .i64 hdZ.mrk)] 27 (0, 0))], sg, [Hp.one pb (.cells #[(.bool p.off), (.bool p.armed), (.int .i64 p.left), (.int .i64 p.uses)] 78 (0, 0))], [Hp.one b2 (.cells #[(.int .i64 0), (.int .i64 0), (.int .i64 0), (.int .i64 0), (.int .i64 0)] 27 (0, 0))], R] := hH19
    let I25 : Nat → (Nat → Value) → World → Prop := fun n__ r__ w__ => ∃ (i : Nat) (bh : Hd) (fd : Bool) (bl : Bool), n__ = 2 - i ∧ Has E w__ [[Hp.one b17 (.cells #[(.int .i64 bh.seq), (.int .i64 bh.ep), (.int .i64 bh.cut), (.int .i64 bh.st), (.int .i64 bh.mrk)] 27 (0, 0))], sg, [Hp.one pb (.cells #[(.bool p.off), (.bool p.armed), (.int .i64 p.left), (.int .i64 p.uses)] 78 (0, 0))], [Hp.one b2 (.cells #[(.int .i64 0), (.int .i64 0), (.int .i64 0), (.int .i64 0), (.int .i64 0)] 27 (0, 0))], R] ∧ (i ≤ 2) ∧ (ldG la x i = (bh, fd)) ∧ (blG la x i = bl) ∧ r__ 0 = (.pointer (some ⟨db, 0, none⟩)) ∧ r__ 1 = (.int .i64 x) ∧ r__ 4 = (.pointer (some ⟨b2, 0, none⟩)) ∧ r__ 6 = (.int .i64 (thE p la.length x)) ∧ r__ 7 = (.pointer (some ⟨b17, 0, none⟩)) ∧ r__ 8 = (.bool fd) ∧ r__ 9 = (.bool bl) ∧ r__ 19 = (.bool (decide (thE p la.length x ≠ 0))) ∧ r__ 22 = (.int .i64 (i : Int))
    refine c_loop I25 _ ⟨0, hdZ, false, true, rfl, hH23, (by omega), rfl, rfl, rfl, rfl, rfl, rfl, rfl, rfl, rfl, rfl, rfl⟩ ?_
    rintro n_ r28 w26 ⟨i, bh, fd, bl, rfl, hH27, hi, hld, hbl, e24_0, e24_1, e24_4, e24_6, e24_7, e24_8, e24_9, e24_19, e24_22⟩
    have hsi_ : i < 2 → inS (x + (i : Int)) la.length := fun h_ => ⟨by omega, by omega⟩
    refine wp_seq_k fun K29 hK29 => ?_
    refine c_region ?_
    refine s_op (o_lss (a := (i : Int)) (b := 2) e24_22 rfl ?_)
    refine s_nil ?_
    refine t_norm (hK29 _ _ ?_)
    refine wp_seq_k fun K30 hK30 => ?_
    refine c_cond rfl (fun h31 => ?_) (fun h31 => ?_)
    · -- (i : Int) < 2
      refine wp_skip ?_
      refine t_norm (hK30 _ _ ?_)
      refine wp_seq_k fun K32 hK32 => ?_
      refine wp_block ?_
      refine wp_seq_k fun K33 hK33 => ?_
      refine c_region ?_
      refine s_op (o_move (v := (.int .i64 (i : Int))) e24_22 ?_)
      refine s_op (o_assign (v := (.int .i64 (i : Int))) rfl ?_)
      refine s_nil ?_
      refine t_norm (hK33 _ _ ?_)
      refine wp_seq_k fun K34 hK34 => ?_
      refine c_region ?_
      refine s_op (o_move (v := (.pointer (some ⟨db, 0, none⟩))) e24_0 ?_)
      refine s_op (o_move (v := (.int .i64 x)) e24_1 ?_)
      refine s_op (o_move (v := (.int .i64 (i : Int))) rfl ?_)
      refine s_op (o_add (a := x) (b := (i : Int)) rfl rfl (w64 (by omega) (by omega)) ?_)
      refine s_op (o_callf (vs := #[(.pointer (some ⟨db, 0, none⟩)), (.int .i64 (x + (i : Int)))]) ca17 rfl (args2 rfl rfl) (read_d (p := p) (la := la) (lo := ([] : List (Int × Bs))) ((hH27.front 2 rfl).front 2 rfl).all2 hd (x + (i : Int))) ?_)
      rintro _ w37 ⟨rfl, hX35⟩
      refine ⟨_, rfl, ?_⟩
      have hH36 : Has E w37 [sg, [Hp.one pb (.cells #[(.bool p.off), (.bool p.armed), (.int .i64 p.left), (.int .i64 p.uses)] 78 (0, 0))], [Hp.one b17 (.cells #[(.int .i64 bh.seq), (.int .i64 bh.ep), (.int .i64 bh.cut), (.int .i64 bh.st), (.int .i64 bh.mrk)] 27 (0, 0))], [Hp.one b2 (.cells #[(.int .i64 0), (.int .i64 0), (.int .i64 0), (.int .i64 0), (.int .i64 0)] 27 (0, 0))], R] := hX35.of_all2
      refine s_op (o_move (v := (.tuple #[(S (readS p la ([] : List (Int × Bs)) (x + (i : Int)))), (.int .i64 (readE p la (x + (i : Int))))])) rfl ?_)
      refine s_op (o_extract (v := (S (readS p la ([] : List (Int × Bs)) (x + (i : Int))))) rfl rfl ?_)
      refine s_op (o_extract (v := (.int .i64 (readE p la (x + (i : Int))))) rfl rfl ?_)
      refine s_op (o_assign (v := (S (readS p la ([] : List (Int × Bs)) (x + (i : Int))))) rfl ?_)
      refine s_op (o_assign (v := (.int .i64 (readE p la (x + (i : Int))))) rfl ?_)
      refine s_nil ?_
      refine t_norm (hK34 _ _ ?_)
      refine wp_seq_k fun K38 hK38 => ?_
      refine wp_seq_k fun K39 hK39 => ?_
      refine c_region ?_
      refine s_op (o_move (v := (.int .i64 (readE p la (x + (i : Int))))) rfl ?_)
      refine s_op (o_neq (a := readE p la (x + (i : Int))) (b := 0) rfl rfl ?_)
      refine s_nil ?_
      refine t_norm (hK39 _ _ ?_)
      refine c_cond rfl (fun h40 => ?_) (fun h40 => ?_)
      · -- readE p la (x + (i : Int)) ≠ 0
        obtain ⟨hsec_, hre_⟩ := read_sec (p := p) (la := la) (n := x + (i : Int)) hth_.2 (hsi_ (by omega))
        have hsl_ : (readS p la [] (x + (i : Int))).length = 64 := by rw [hsec_]; exact sec_len h64 (hsi_ (by omega))
        exact absurd hre_ h40
      · -- not: readE p la (x + (i : Int)) ≠ 0
        obtain ⟨hsec_, hre_⟩ := read_sec (p := p) (la := la) (n := x + (i : Int)) hth_.2 (hsi_ (by omega))
        have hsl_ : (readS p la [] (x + (i : Int))).length = 64 := by rw [hsec_]; exact sec_len h64 (hsi_ (by omega))
        refine wp_skip ?_
        refine t_norm (hK38 _ _ ?_)
        refine wp_seq_k fun K41 hK41 => ?_
        refine c_region ?_
        refine s_op (o_move (v := (.bool bl)) e24_9 ?_)
        refine s_op (o_move (v := (.bool bl)) rfl ?_)
        rcases Bool.eq_false_or_eq_true bl with h42 | h42
        · -- bl
          refine s_on 38 rfl (congrArg Value.bool h42) (o_move (v := (S (readS p la ([] : List (Int × Bs)) (x + (i : Int))))) rfl ?_)
          refine s_on 38 rfl (congrArg Value.bool h42) (o_callf (vs := #[(S (readS p la ([] : List (Int × Bs)) (x + (i : Int)))), (S [0])]) ca46 rfl (args2 rfl rfl) (strim_c hH36.all (readS p la ([] : List (Int × Bs)) (x + (i : Int))) (by omega)) ?_)
          rintro _ w45 ⟨rfl, hX43⟩
          refine ⟨_, rfl, ?_⟩
          have hH44 := hX43.of_all
          refine s_on 38 rfl (congrArg Value.bool h42) (o_seql (a := (Lib.trimB (readS p la ([] : List (Int × Bs)) (x + (i : Int))) 0)) (b := ([] : List UInt8)) rfl rfl ?_)
          refine s_op (o_pick_t (u := (.bool (decide ((Lib.trimB (readS p la ([] : List (Int × Bs)) (x + (i : Int))) 0) = ([] : List UInt8))))) ((rfl : _ = _).trans (congrArg Value.bool h42)) rfl ?_)
          refine s_op (o_assign (v := (.bool (decide ((Lib.trimB (readS p la ([] : List (Int × Bs)) (x + (i : Int))) 0) = ([] : List UInt8))))) rfl ?_)
          refine s_nil ?_
          refine t_norm (hK41 _ _ ?_)
          refine wp_seq_k fun K46 hK46 => ?_
          refine c_region ?_
          refine s_op (o_move (v := (S (readS p la ([] : List (Int × Bs)) (x + (i : Int))))) rfl ?_)
          refine s_op (o_callf (vs := #[(S (readS p la ([] : List (Int × Bs)) (x + (i : Int))))]) ca12 rfl (args1 rfl) (hread_c (s := (readS p la ([] : List (Int × Bs)) (x + (i : Int)))) hH44.all (hg.mono (seg_sub 4 rfl)) (by first | omega | (simp only []; omega) | (simp; done) | (simp; omega))) ?_)
          rintro _ w49 ⟨rfl, hX47⟩
          refine ⟨_, rfl, ?_⟩
          have hH48 := hX47.of_all
          have hnn_ := hdP_nn (readS p la ([] : List (Int × Bs)) (x + (i : Int)))
          refine s_op (o_move (v := (.tuple #[(.agg #[(.int .i64 ((hdP (readS p la ([] : List (Int × Bs)) (x + (i : Int)))).1).seq), (.int .i64 ((hdP (readS p la ([] : List (Int × Bs)) (x + (i : Int)))).1).ep), (.int .i64 ((hdP (readS p la ([] : List (Int × Bs)) (x + (i : Int)))).1).cut), (.int .i64 ((hdP (readS p la ([] : List (Int × Bs)) (x + (i : Int)))).1).st), (.int .i64 ((hdP (readS p la ([] : List (Int × Bs)) (x + (i : Int)))).1).mrk)]), (.bool ((hdP (readS p la ([] : List (Int × Bs)) (x + (i : Int)))).2))])) rfl ?_)
          refine s_op (o_extract (v := (.agg #[(.int .i64 ((hdP (readS p la ([] : List (Int × Bs)) (x + (i : Int)))).1).seq), (.int .i64 ((hdP (readS p la ([] : List (Int × Bs)) (x + (i : Int)))).1).ep), (.int .i64 ((hdP (readS p la ([] : List (Int × Bs)) (x + (i : Int)))).1).cut), (.int .i64 ((hdP (readS p la ([] : List (Int × Bs)) (x + (i : Int)))).1).st), (.int .i64 ((hdP (readS p la ([] : List (Int × Bs)) (x + (i : Int)))).1).mrk)])) rfl rfl ?_)
          refine s_op (o_extract (v := (.bool ((hdP (readS p la ([] : List (Int × Bs)) (x + (i : Int)))).2))) rfl rfl ?_)
          refine s_op (o_alloc (cs := #[(.int .i64 0), (.int .i64 0), (.int .i64 0), (.int .i64 0), (.int .i64 0)]) ti27 rfl hH48 fun b50 w51 hH52 => ?_)
          refine s_eff (o_storeN (vs := [(.int .i64 ((hdP (readS p la ([] : List (Int × Bs)) (x + (i : Int)))).1).seq), (.int .i64 ((hdP (readS p la ([] : List (Int × Bs)) (x + (i : Int)))).1).ep), (.int .i64 ((hdP (readS p la ([] : List (Int × Bs)) (x + (i : Int)))).1).cut), (.int .i64 ((hdP (readS p la ([] : List (Int × Bs)) (x + (i : Int)))).1).st), (.int .i64 ((hdP (readS p la ([] : List (Int × Bs)) (x + (i : Int)))).1).mrk)]) (c' := #[(.int .i64 ((hdP (readS p la ([] : List (Int × Bs)) (x + (i : Int)))).1).seq), (.int .i64 ((hdP (readS p la ([] : List (Int × Bs)) (x + (i : Int)))).1).ep), (.int .i64 ((hdP (readS p la ([] : List (Int × Bs)) (x + (i : Int)))).1).cut), (.int .i64 ((hdP (readS p la ([] : List (Int × Bs)) (x + (i : Int)))).1).st), (.int .i64 ((hdP (readS p la ([] : List (Int × Bs)) (x + (i : Int)))).1).mrk)]) ti27 rfl rfl rfl rfl (by intro u hu; simp only [List.mem_cons, List.not_mem_nil, or_false] at hu; rcases hu with rfl | rfl | rfl | rfl | rfl <;> first | rfl) (by simp) (by kernel_rfl) (hH52.front 0 rfl) fun w53 hH54 => ?_)
          refine s_op (o_assign (v := (.bool ((hdP (readS p la ([] : List (Int × Bs)) (x + (i : Int)))).2))) rfl ?_)
          refine s_nil ?_
          refine t_norm (hK46 _ _ ?_)
          refine wp_seq_k fun K55 hK55 => ?_
          refine c_region ?_
          refine s_op (o_move (v := (.bool ((hdP (readS p la ([] : List (Int × Bs)) (x + (i : Int)))).2))) rfl ?_)
          refine s_op (o_move (v := (.bool ((hdP (readS p la ([] : List (Int × Bs)) (x + (i : Int)))).2))) rfl ?_)
          rcases Bool.eq_false_or_eq_true ((hdP (readS p la ([] : List (Int × Bs)) (x + (i : Int)))).2) with h56 | h56
          · -- (hdP (readS p la ([] : List (Int × Bs)) (x + (i : Int)))).2
            refine s_on 49 rfl (congrArg Value.bool h56) (o_fieldAddr (k := 0) (fun _ => by kernel_rfl) rfl ?_)
            refine s_on 49 rfl (congrArg Value.bool h56) (o_load1 (v := (.int .i64 ((hdP (readS p la ([] : List (Int × Bs)) (x + (i : Int)))).1).seq)) Tryz.underlying3 rfl rfl hH54 (seg_sub 0 rfl) (CellsAt.one rfl) ?_)
            refine s_on 49 rfl (congrArg Value.bool h56) (o_rem (a := ((hdP (readS p la ([] : List (Int × Bs)) (x + (i : Int)))).1).seq) (b := 2) (c := (((hdP (readS p la ([] : List (Int × Bs)) (x + (i : Int)))).1).seq) % 2) rfl rfl (by omega) ((Int.tmod_eq_emod_of_nonneg (by first | exact Int.natCast_nonneg _ | omega))) ?_)
            refine s_on 49 rfl (congrArg Value.bool h56) (o_move (v := (.int .i64 (i : Int))) rfl ?_)
            refine s_on 49 rfl (congrArg Value.bool h56) (o_eql (a := (((hdP (readS p la ([] : List (Int × Bs)) (x + (i : Int)))).1).seq) % 2) (b := (i : Int)) rfl rfl ?_)
            refine s_op (o_pick_t (u := (.bool (decide ((((hdP (readS p la ([] : List (Int × Bs)) (x + (i : Int)))).1).seq) % 2 = (i : Int))))) ((rfl : _ = _).trans (congrArg Value.bool h56)) rfl ?_)
            refine s_op (o_move (v := (.bool (decide ((((hdP (readS p la ([] : List (Int × Bs)) (x + (i : Int)))).1).seq) % 2 = (i : Int))))) rfl ?_)
            by_cases h57 : (((hdP (readS p la ([] : List (Int × Bs)) (x + (i : Int)))).1).seq) % 2 = (i : Int)
            · -- (((hdP (readS p la ([] : List (Int × Bs)) (x + (i : Int)))).1).seq) % 2 = (i : Int)
              refine s_on 56 rfl (congrArg Value.bool (decide_eq_true h57)) (o_move (v := (.bool fd)) e24_8 ?_)
              refine s_on 56 rfl (congrArg Value.bool (decide_eq_true h57)) (o_not rfl ?_)
              refine s_on 56 rfl (congrArg Value.bool (decide_eq_true h57)) (o_move (v := (.bool (!fd))) rfl ?_)
              rcases Bool.eq_false_or_eq_true (!fd) with h58 | h58
              · -- !fd
                have h58_n : fd = false := by simpa using h58
                refine s_off (b' := true) 59 rfl (congrArg Value.bool h58) rfl ?_
                refine s_off (b' := true) 59 rfl (congrArg Value.bool h58) rfl ?_
                refine s_off (b' := true) 59 rfl (congrArg Value.bool h58) rfl ?_
                refine s_off (b' := true) 59 rfl (congrArg Value.bool h58) rfl ?_
                refine s_off (b' := true) 59 rfl (congrArg Value.bool h58) rfl ?_
                refine s_on 56 rfl (congrArg Value.bool (decide_eq_true h57)) (o_pick_t (u := (.bool true)) ((rfl : _ = _).trans (congrArg Value.bool h58)) rfl ?_)
                refine s_op (o_pick_t (u := (.bool true)) ((rfl : _ = _).trans (congrArg Value.bool (decide_eq_true h57))) rfl ?_)
                refine s_nil ?_
                refine t_norm (hK55 _ _ ?_)
                refine c_true rfl rfl ?_
                refine c_region ?_
                refine s_op (o_loadN (cs := [(.int .i64 ((hdP (readS p la ([] : List (Int × Bs)) (x + (i : Int)))).1).seq), (.int .i64 ((hdP (readS p la ([] : List (Int × Bs)) (x + (i : Int)))).1).ep), (.int .i64 ((hdP (readS p la ([] : List (Int × Bs)) (x + (i : Int)))).1).cut), (.int .i64 ((hdP (readS p la ([] : List (Int × Bs)) (x + (i : Int)))).1).st), (.int .i64 ((hdP (readS p la ([] : List (Int × Bs)) (x + (i : Int)))).1).mrk)]) Tryz.underlying27 rfl ti27 rfl hH54 (seg_sub 0 rfl) (CellsAt.one rfl) ?_)
                refine s_eff (o_storeN (vs := [(.int .i64 ((hdP (readS p la ([] : List (Int × Bs)) (x + (i : Int)))).1).seq), (.int .i64 ((hdP (readS p la ([] : List (Int × Bs)) (x + (i : Int)))).1).ep), (.int .i64 ((hdP (readS p la ([] : List (Int × Bs)) (x + (i : Int)))).1).cut), (.int .i64 ((hdP (readS p la ([] : List (Int × Bs)) (x + (i : Int)))).1).st), (.int .i64 ((hdP (readS p la ([] : List (Int × Bs)) (x + (i : Int)))).1).mrk)]) (c' := #[(.int .i64 ((hdP (readS p la ([] : List (Int × Bs)) (x + (i : Int)))).1).seq), (.int .i64 ((hdP (readS p la ([] : List (Int × Bs)) (x + (i : Int)))).1).ep), (.int .i64 ((hdP (readS p la ([] : List (Int × Bs)) (x + (i : Int)))).1).cut), (.int .i64 ((hdP (readS p la ([] : List (Int × Bs)) (x + (i : Int)))).1).st), (.int .i64 ((hdP (readS p la ([] : List (Int × Bs)) (x + (i : Int)))).1).mrk)]) ti27 e24_7 rfl rfl rfl (by intro u hu; simp only [List.mem_cons, List.not_mem_nil, or_false] at hu; rcases hu with rfl | rfl | rfl | rfl | rfl <;> first | rfl) (by simp) (by kernel_rfl) (hH54.front 3 rfl) fun w59 hH60 => ?_)
                refine s_op (o_assign (v := (.bool true)) rfl ?_)
                refine s_nil ?_
                refine b_norm ?_
                refine t_norm (hK32 _ _ ?_)
                refine c_region ?_
                refine s_op (o_add (a := (i : Int)) (b := 1) e24_22 rfl (w64 (by omega) (by omega)) ?_)
                refine s_op (o_move (v := (.int .i64 ((i : Int) + 1))) rfl ?_)
                refine s_nil ?_
                have hH61 : Has E w59 [[Hp.one b17 (.cells #[(.int .i64 ((hdP (readS p la ([] : List (Int × Bs)) (x + (i : Int)))).1).seq), (.int .i64 ((hdP (readS p la ([] : List (Int × Bs)) (x + (i : Int)))).1).ep), (.int .i64 ((hdP (readS p la ([] : List (Int × Bs)) (x + (i : Int)))).1).cut), (.int .i64 ((hdP (readS p la ([] : List (Int × Bs)) (x + (i : Int)))).1).st), (.int .i64 ((hdP (readS p la ([] : List (Int × Bs)) (x + (i : Int)))).1).mrk)] 27 (0, 0))], sg, [Hp.one pb (.cells #[(.bool p.off), (.bool p.armed), (.int .i64 p.left), (.int .i64 p.uses)] 78 (0, 0))], [Hp.one b2 (.cells #[(.int .i64 0), (.int .i64 0), (.int .i64 0), (.int .i64 0), (.int .i64 0)] 27 (0, 0))], R] := (((((hH60.front 5 rfl).front 5 rfl).front 5 rfl).front 5 rfl).front 4 rfl).first 5 rfl
                refine t_norm ⟨2 - (i + 1), _, rfl, ?_, ?_⟩
                · omega
                · exact ⟨(i + 1), ((hdP (readS p la ([] : List (Int × Bs)) (x + (i : Int)))).1), true, (decide ((Lib.trimB (readS p la ([] : List (Int × Bs)) (x + (i : Int))) 0) = ([] : List UInt8))), rfl, hH61, (by omega), (ldG_yes hld hsec_ (by first | (simpa using h11) | (simpa using h31) | (simpa using h40) | (simpa using h42) | (simpa using h56) | (simpa using h57) | (simpa using h58) | (simpa using h58_n)) (by first | exact h11 | exact h31 | exact h40 | exact h42 | exact h56 | exact h57 | exact h58 | exact h58_n) (by first | exact .inr (by omega) | exact .inl (by simpa using h11) | exact .inl (by simpa using h31) | exact .inl (by simpa using h40) | exact .inl (by simpa using h42) | exact .inl (by simpa using h56) | exact .inl (by simpa using h57) | exact .inl (by simpa using h58) | exact .inl (by simpa using h58_n))), ((blG_step hbl hsec_ hsl_).trans (by first | rfl | (rw [h42]; rfl) | simp [h42])), e24_0, e24_1, e24_4, e24_6, e24_7, rfl, rfl, e24_19, rfl⟩
              · -- not: !fd
                have h58_n : fd = true := by simpa using h58
                refine s_on 59 rfl (congrArg Value.bool h58) (o_fieldAddr (k := 0) (fun _ => by kernel_rfl) rfl ?_)
                refine s_on 59 rfl (congrArg Value.bool h58) (o_load1 (v := (.int .i64 ((hdP (readS p la ([] : List (Int × Bs)) (x + (i : Int)))).1).seq)) Tryz.underlying3 rfl rfl hH54 (seg_sub 0 rfl) (CellsAt.one rfl) ?_)
                refine s_on 59 rfl (congrArg Value.bool h58) (o_fieldAddr (k := 0) (fun _ => by kernel_rfl) e24_7 ?_)
                refine s_on 59 rfl (congrArg Value.bool h58) (o_load1 (v := (.int .i64 bh.seq)) Tryz.underlying3 rfl rfl hH54 (seg_sub 3 rfl) (CellsAt.one rfl) ?_)
                refine s_on 59 rfl (congrArg Value.bool h58) (o_gtr (a := ((hdP (readS p la ([] : List (Int × Bs)) (x + (i : Int)))).1).seq) (b := bh.seq) rfl rfl ?_)
                refine s_on 56 rfl (congrArg Value.bool (decide_eq_true h57)) (o_pick_f (u := (.bool (decide (bh.seq < ((hdP (readS p la ([] : List (Int × Bs)) (x + (i : Int)))).1).seq)))) ((rfl : _ = _).trans (congrArg Value.bool h58)) rfl ?_)
                refine s_op (o_pick_t (u := (.bool (decide (bh.seq < ((hdP (readS p la ([] : List (Int × Bs)) (x + (i : Int)))).1).seq)))) ((rfl : _ = _).trans (congrArg Value.bool (decide_eq_true h57))) rfl ?_)
                refine s_nil ?_
                refine t_norm (hK55 _ _ ?_)
                refine c_cond rfl (fun h62 => ?_) (fun h62 => ?_)
                · -- bh.seq < ((hdP (readS p la ([] : List (Int × Bs)) (x + (i : Int)))).1).seq
                  refine c_region ?_
                  refine s_op (o_loadN (cs := [(.int .i64 ((hdP (readS p la ([] : List (Int × Bs)) (x + (i : Int)))).1).seq), (.int .i64 ((hdP (readS p la ([] : List (Int × Bs)) (x + (i : Int)))).1).ep), (.int .i64 ((hdP (readS p la ([] : List (Int × Bs)) (x + (i : Int)))).1).cut), (.int .i64 ((hdP (readS p la ([] : List (Int × Bs)) (x + (i : Int)))).1).st), (.int .i64 ((hdP (readS p la ([] : List (Int × Bs)) (x + (i : Int)))).1).mrk)]) Tryz.underlying27 rfl ti27 rfl hH54 (seg_sub 0 rfl) (CellsAt.one rfl) ?_)
                  refine s_eff (o_storeN (vs := [(.int .i64 ((hdP (readS p la ([] : List (Int × Bs)) (x + (i : Int)))).1).seq), (.int .i64 ((hdP (readS p la ([] : List (Int × Bs)) (x + (i : Int)))).1).ep), (.int .i64 ((hdP (readS p la ([] : List (Int × Bs)) (x + (i : Int)))).1).cut), (.int .i64 ((hdP (readS p la ([] : List (Int × Bs)) (x + (i : Int)))).1).st), (.int .i64 ((hdP (readS p la ([] : List (Int × Bs)) (x + (i : Int)))).1).mrk)]) (c' := #[(.int .i64 ((hdP (readS p la ([] : List (Int × Bs)) (x + (i : Int)))).1).seq), (.int .i64 ((hdP (readS p la ([] : List (Int × Bs)) (x + (i : Int)))).1).ep), (.int .i64 ((hdP (readS p la ([] : List (Int × Bs)) (x + (i : Int)))).1).cut), (.int .i64 ((hdP (readS p la ([] : List (Int × Bs)) (x + (i : Int)))).1).st), (.int .i64 ((hdP (readS p la ([] : List (Int × Bs)) (x + (i : Int)))).1).mrk)]) ti27 e24_7 rfl rfl rfl (by intro u hu; simp only [List.mem_cons, List.not_mem_nil, or_false] at hu; rcases hu with rfl | rfl | rfl | rfl | rfl <;> first | rfl) (by simp) (by kernel_rfl) (hH54.front 3 rfl) fun w63 hH64 => ?_)
                  refine s_op (o_assign (v := (.bool true)) rfl ?_)
                  refine s_nil ?_
                  refine b_norm ?_
                  refine t_norm (hK32 _ _ ?_)
                  refine c_region ?_
                  refine s_op (o_add (a := (i : Int)) (b := 1) e24_22 rfl (w64 (by omega) (by omega)) ?_)
                  refine s_op (o_move (v := (.int .i64 ((i : Int) + 1))) rfl ?_)
                  refine s_nil ?_
                  have hH65 : Has E w63 [[Hp.one b17 (.cells #[(.int .i64 ((hdP (readS p la ([] : List (Int × Bs)) (x + (i : Int)))).1).seq), (.int .i64 ((hdP (readS p la ([] : List (Int × Bs)) (x + (i : Int)))).1).ep), (.int .i64 ((hdP (readS p la ([] : List (Int × Bs)) (x + (i : Int)))).1).cut), (.int .i64 ((hdP (readS p la ([] : List (Int × Bs)) (x + (i : Int)))).1).st), (.int .i64 ((hdP (readS p la ([] : List (Int × Bs)) (x + (i : Int)))).1).mrk)] 27 (0, 0))], sg, [Hp.one pb (.cells #[(.bool p.off), (.bool p.armed), (.int .i64 p.left), (.int .i64 p.uses)] 78 (0, 0))], [Hp.one b2 (.cells #[(.int .i64 0), (.int .i64 0), (.int .i64 0), (.int .i64 0), (.int .i64 0)] 27 (0, 0))], R] := (((((hH64.front 5 rfl).front 5 rfl).front 5 rfl).front 5 rfl).front 4 rfl).first 5 rfl
                  refine t_norm ⟨2 - (i + 1), _, rfl, ?_, ?_⟩
                  · omega
                  · exact ⟨(i + 1), ((hdP (readS p la ([] : List (Int × Bs)) (x + (i : Int)))).1), true, (decide ((Lib.trimB (readS p la ([] : List (Int × Bs)) (x + (i : Int))) 0) = ([] : List UInt8))), rfl, hH65, (by omega), (ldG_yes hld hsec_ (by first | (simpa using h11) | (simpa using h31) | (simpa using h40) | (simpa using h42) | (simpa using h56) | (simpa using h57) | (simpa using h58) | (simpa using h58_n) | (simpa using h62)) (by first | exact h11 | exact h31 | exact h40 | exact h42 | exact h56 | exact h57 | exact h58 | exact h58_n | exact h62) (by first | exact .inr (by omega) | exact .inl (by simpa using h11) | exact .inl (by simpa using h31) | exact .inl (by simpa using h40) | exact .inl (by simpa using h42) | exact .inl (by simpa using h56) | exact .inl (by simpa using h57) | exact .inl (by simpa using h58) | exact .inl (by simpa using h58_n) | exact .inl (by simpa using h62))), ((blG_step hbl hsec_ hsl_).trans (by first | rfl | (rw [h42]; rfl) | simp [h42])), e24_0, e24_1, e24_4, e24_6, e24_7, rfl, rfl, e24_19, rfl⟩
                · -- not: bh.seq < ((hdP (readS p la ([] : List (Int × Bs)) (x + (i : Int)))).1).seq
                  refine wp_skip ?_
                  refine b_norm ?_
                  refine t_norm (hK32 _ _ ?_)
                  refine c_region ?_
                  refine s_op (o_add (a := (i : Int)) (b := 1) e24_22 rfl (w64 (by omega) (by omega)) ?_)
                  refine s_op (o_move (v := (.int .i64 ((i : Int) + 1))) rfl ?_)
                  refine s_nil ?_
                  have hH66 : Has E w53 [[Hp.one b17 (.cells #[(.int .i64 bh.seq), (.int .i64 bh.ep), (.int .i64 bh.cut), (.int .i64 bh.st), (.int .i64 bh.mrk)] 27 (0, 0))], sg, [Hp.one pb (.cells #[(.bool p.off), (.bool p.armed), (.int .i64 p.left), (.int .i64 p.uses)] 78 (0, 0))], [Hp.one b2 (.cells #[(.int .i64 0), (.int .i64 0), (.int .i64 0), (.int .i64 0), (.int .i64 0)] 27 (0, 0))], R] := (((((hH54.front 5 rfl).front 5 rfl).front 4 rfl).front 4 rfl).front 5 rfl).first 5 rfl
                  refine t_norm ⟨2 - (i + 1), _, rfl, ?_, ?_⟩
                  · omega
                  · exact ⟨(i + 1), bh, fd, (decide ((Lib.trimB (readS p la ([] : List (Int × Bs)) (x + (i : Int))) 0) = ([] : List UInt8))), rfl, hH66, (by omega), (ldG_no hld hsec_ (.inr (.inr ⟨by first | (simpa using h11) | (simpa using h31) | (simpa using h40) | (simpa using h42) | (simpa using h56) | (simpa using h57) | (simpa using h58) | (simpa using h58_n) | (simpa using h62), by omega⟩))), ((blG_step hbl hsec_ hsl_).trans (by first | rfl | (rw [h42]; rfl) | simp [h42])), e24_0, e24_1, e24_4, e24_6, e24_7, e24_8, rfl, e24_19, rfl⟩
            · -- not: (((hdP (readS p la ([] : List (Int × Bs)) (x + (i : Int)))).1).seq) % 2 = (i : Int)
              refine s_off (b' := false) 56 rfl (congrArg Value.bool (decide_eq_false h57)) rfl ?_
              refine s_off (b' := false) 56 rfl (congrArg Value.bool (decide_eq_false h57)) rfl ?_
              refine s_off (b' := false) 56 rfl (congrArg Value.bool (decide_eq_false h57)) rfl ?_
              refine s_offu 59 rfl rfl ?_
              refine s_offu 59 rfl rfl ?_
              refine s_offu 59 rfl rfl ?_
              refine s_offu 59 rfl rfl ?_
              refine s_offu 59 rfl rfl ?_
              refine s_off (b' := false) 56 rfl (congrArg Value.bool (decide_eq_false h57)) rfl ?_
              refine s_op (o_pick_f (u := (.bool false)) ((rfl : _ = _).trans (congrArg Value.bool (decide_eq_false h57))) rfl ?_)
              refine s_nil ?_
              refine t_norm (hK55 _ _ ?_)
              refine c_false rfl rfl ?_
              refine wp_skip ?_
              refine b_norm ?_
              refine t_norm (hK32 _ _ ?_)
              refine c_region ?_
              refine s_op (o_add (a := (i : Int)) (b := 1) e24_22 rfl (w64 (by omega) (by omega)) ?_)
              refine s_op (o_move (v := (.int .i64 ((i : Int) + 1))) rfl ?_)
              refine s_nil ?_
              have hH67 : Has E w53 [[Hp.one b17 (.cells #[(.int .i64 bh.seq), (.int .i64 bh.ep), (.int .i64 bh.cut), (.int .i64 bh.st), (.int .i64 bh.mrk)] 27 (0, 0))], sg, [Hp.one pb (.cells #[(.bool p.off), (.bool p.armed), (.int .i64 p.left), (.int .i64 p.uses)] 78 (0, 0))], [Hp.one b2 (.cells #[(.int .i64 0), (.int .i64 0), (.int .i64 0), (.int .i64 0), (.int .i64 0)] 27 (0, 0))], R] := (((((hH54.front 5 rfl).front 5 rfl).front 4 rfl).front 4 rfl).front 5 rfl).first 5 rfl
              refine t_norm ⟨2 - (i + 1), _, rfl, ?_, ?_⟩
              · omega
              · exact ⟨(i + 1), bh, fd, (decide ((Lib.trimB (readS p la ([] : List (Int × Bs)) (x + (i : Int))) 0) = ([] : List UInt8))), rfl, hH67, (by omega), (ldG_no hld hsec_ (by first | exact .inl (by simpa using h11) | exact .inr (.inl h11) | exact .inl (by simpa using h31) | exact .inr (.inl h31) | exact .inl (by simpa using h40) | exact .inr (.inl h40) | exact .inl (by simpa using h42) | exact .inr (.inl h42) | exact .inl (by simpa using h56) | exact .inr (.inl h56) | exact .inl (by simpa using h57) | exact .inr (.inl h57))), ((blG_step hbl hsec_ hsl_).trans (by first | rfl | (rw [h42]; rfl) | simp [h42])), e24_0, e24_1, e24_4, e24_6, e24_7, e24_8, rfl, e24_19, rfl⟩
          · -- not: (hdP (readS p la ([] : List (Int × Bs)) (x + (i : Int)))).2
            refine s_off (b' := false) 49 rfl (congrArg Value.bool h56) rfl ?_
            refine s_off (b' := false) 49 rfl (congrArg Value.bool h56) rfl ?_
            refine s_off (b' := false) 49 rfl (congrArg Value.bool h56) rfl ?_
            refine s_off (b' := false) 49 rfl (congrArg Value.bool h56) rfl ?_
            refine s_off (b' := false) 49 rfl (congrArg Value.bool h56) rfl ?_
            refine s_op (o_pick_f (u := (.bool false)) ((rfl : _ = _).trans (congrArg Value.bool h56)) rfl ?_)
            refine s_op (o_move (v := (.bool false)) rfl ?_)
            refine s_off (b' := false) 56 rfl rfl rfl ?_
            refine s_off (b' := false) 56 rfl rfl rfl ?_
            refine s_off (b' := false) 56 rfl rfl rfl ?_
            refine s_offu 59 rfl rfl ?_
            refine s_offu 59 rfl rfl ?_
            refine s_offu 59 rfl rfl ?_
            refine s_offu 59 rfl rfl ?_
            refine s_offu 59 rfl rfl ?_
            refine s_off (b' := false) 56 rfl rfl rfl ?_
            refine s_op (o_pick_f (u := (.bool false)) rfl rfl ?_)
            refine s_nil ?_
            refine t_norm (hK55 _ _ ?_)
            refine c_false rfl rfl ?_
            refine wp_skip ?_
            refine b_norm ?_
            refine t_norm (hK32 _ _ ?_)
            refine c_region ?_
            refine s_op (o_add (a := (i : Int)) (b := 1) e24_22 rfl (w64 (by omega) (by omega)) ?_)
            refine s_op (o_move (v := (.int .i64 ((i : Int) + 1))) rfl ?_)
            refine s_nil ?_
            have hH68 : Has E w53 [[Hp.one b17 (.cells #[(.int .i64 bh.seq), (.int .i64 bh.ep), (.int .i64 bh.cut), (.int .i64 bh.st), (.int .i64 bh.mrk)] 27 (0, 0))], sg, [Hp.one pb (.cells #[(.bool p.off), (.bool p.armed), (.int .i64 p.left), (.int .i64 p.uses)] 78 (0, 0))], [Hp.one b2 (.cells #[(.int .i64 0), (.int .i64 0), (.int .i64 0), (.int .i64 0), (.int .i64 0)] 27 (0, 0))], R] := (((((hH54.front 5 rfl).front 5 rfl).front 4 rfl).front 4 rfl).front 5 rfl).first 5 rfl
            refine t_norm ⟨2 - (i + 1), _, rfl, ?_, ?_⟩
            · omega
            · exact ⟨(i + 1), bh, fd, (decide ((Lib.trimB (readS p la ([] : List (Int × Bs)) (x + (i : Int))) 0) = ([] : List UInt8))), rfl, hH68, (by omega), (ldG_no hld hsec_ (by first | exact .inl (by simpa using h11) | exact .inr (.inl h11) | exact .inl (by simpa using h31) | exact .inr (.inl h31) | exact .inl (by simpa using h40) | exact .inr (.inl h40) | exact .inl (by simpa using h42) | exact .inr (.inl h42) | exact .inl (by simpa using h56) | exact .inr (.inl h56))), ((blG_step hbl hsec_ hsl_).trans (by first | rfl | (rw [h42]; rfl) | simp [h42])), e24_0, e24_1, e24_4, e24_6, e24_7, e24_8, rfl, e24_19, rfl⟩
        · -- not: bl
          refine s_off (b' := false) 38 rfl (congrArg Value.bool h42) rfl ?_
          refine s_off (b' := false) 38 rfl (congrArg Value.bool h42) rfl ?_
          refine s_off (b' := false) 38 rfl (congrArg Value.bool h42) rfl ?_
          refine s_op (o_pick_f (u := (.bool false)) ((rfl : _ = _).trans (congrArg Value.bool h42)) rfl ?_)
          refine s_op (o_assign (v := (.bool false)) rfl ?_)
          refine s_nil ?_
          refine t_norm (hK41 _ _ ?_)
          refine wp_seq_k fun K69 hK69 => ?_
          refine c_region ?_
          refine s_op (o_move (v := (S (readS p la ([] : List (Int × Bs)) (x + (i : Int))))) rfl ?_)
          refine s_op (o_callf (vs := #[(S (readS p la ([] : List (Int × Bs)) (x + (i : Int))))]) ca12 rfl (args1 rfl) (hread_c (s := (readS p la ([] : List (Int × Bs)) (x + (i : Int)))) hH36.all (hg.mono (seg_sub 4 rfl)) (by first | omega | (simp only []; omega) | (simp; done) | (simp; omega))) ?_)
          rintro _ w72 ⟨rfl, hX70⟩
          refine ⟨_, rfl, ?_⟩
          have hH71 := hX70.of_all
          have hnn_ := hdP_nn (readS p la ([] : List (Int × Bs)) (x + (i : Int)))
          refine s_op (o_move (v := (.tuple #[(.agg #[(.int .i64 ((hdP (readS p la ([] : List (Int × Bs)) (x + (i : Int)))).1).seq), (.int .i64 ((hdP (readS p la ([] : List (Int × Bs)) (x + (i : Int)))).1).ep), (.int .i64 ((hdP (readS p la ([] : List (Int × Bs)) (x + (i : Int)))).1).cut), (.int .i64 ((hdP (readS p la ([] : List (Int × Bs)) (x + (i : Int)))).1).st), (.int .i64 ((hdP (readS p la ([] : List (Int × Bs)) (x + (i : Int)))).1).mrk)]), (.bool ((hdP (readS p la ([] : List (Int × Bs)) (x + (i : Int)))).2))])) rfl ?_)
          refine s_op (o_extract (v := (.agg #[(.int .i64 ((hdP (readS p la ([] : List (Int × Bs)) (x + (i : Int)))).1).seq), (.int .i64 ((hdP (readS p la ([] : List (Int × Bs)) (x + (i : Int)))).1).ep), (.int .i64 ((hdP (readS p la ([] : List (Int × Bs)) (x + (i : Int)))).1).cut), (.int .i64 ((hdP (readS p la ([] : List (Int × Bs)) (x + (i : Int)))).1).st), (.int .i64 ((hdP (readS p la ([] : List (Int × Bs)) (x + (i : Int)))).1).mrk)])) rfl rfl ?_)
          refine s_op (o_extract (v := (.bool ((hdP (readS p la ([] : List (Int × Bs)) (x + (i : Int)))).2))) rfl rfl ?_)
          refine s_op (o_alloc (cs := #[(.int .i64 0), (.int .i64 0), (.int .i64 0), (.int .i64 0), (.int .i64 0)]) ti27 rfl hH71 fun b73 w74 hH75 => ?_)
          refine s_eff (o_storeN (vs := [(.int .i64 ((hdP (readS p la ([] : List (Int × Bs)) (x + (i : Int)))).1).seq), (.int .i64 ((hdP (readS p la ([] : List (Int × Bs)) (x + (i : Int)))).1).ep), (.int .i64 ((hdP (readS p la ([] : List (Int × Bs)) (x + (i : Int)))).1).cut), (.int .i64 ((hdP (readS p la ([] : List (Int × Bs)) (x + (i : Int)))).1).st), (.int .i64 ((hdP (readS p la ([] : List (Int × Bs)) (x + (i : Int)))).1).mrk)]) (c' := #[(.int .i64 ((hdP (readS p la ([] : List (Int × Bs)) (x + (i : Int)))).1).seq), (.int .i64 ((hdP (readS p la ([] : List (Int × Bs)) (x + (i : Int)))).1).ep), (.int .i64 ((hdP (readS p la ([] : List (Int × Bs)) (x + (i : Int)))).1).cut), (.int .i64 ((hdP (readS p la ([] : List (Int × Bs)) (x + (i : Int)))).1).st), (.int .i64 ((hdP (readS p la ([] : List (Int × Bs)) (x + (i : Int)))).1).mrk)]) ti27 rfl rfl rfl rfl (by intro u hu; simp only [List.mem_cons, List.not_mem_nil, or_false] at hu; rcases hu with rfl | rfl | rfl | rfl | rfl <;> first | rfl) (by simp) (by kernel_rfl) (hH75.front 0 rfl) fun w76 hH77 => ?_)
          refine s_op (o_assign (v := (.bool ((hdP (readS p la ([] : List (Int × Bs)) (x + (i : Int)))).2))) rfl ?_)
          refine s_nil ?_
          refine t_norm (hK69 _ _ ?_)
          refine wp_seq_k fun K78 hK78 => ?_
          refine c_region ?_
          refine s_op (o_move (v := (.bool ((hdP (readS p la ([] : List (Int × Bs)) (x + (i : Int)))).2))) rfl ?_)
          refine s_op (o_move (v := (.bool ((hdP (readS p la ([] : List (Int × Bs)) (x + (i : Int)))).2))) rfl ?_)
          rcases Bool.eq_false_or_eq_true ((hdP (readS p la ([] : List (Int × Bs)) (x + (i : Int)))).2) with h79 | h79
          · -- (hdP (readS p la ([] : List (Int × Bs)) (x + (i : Int)))).2
            refine s_on 49 rfl (congrArg Value.bool h79) (o_fieldAddr (k := 0) (fun _ => by kernel_rfl) rfl ?_)
            refine s_on 49 rfl (congrArg Value.bool h79) (o_load1 (v := (.int .i64 ((hdP (readS p la ([] : List (Int × Bs)) (x + (i : Int)))).1).seq)) Tryz.underlying3 rfl rfl hH77 (seg_sub 0 rfl) (CellsAt.one rfl) ?_)
            refine s_on 49 rfl (congrArg Value.bool h79) (o_rem (a := ((hdP (readS p la ([] : List (Int × Bs)) (x + (i : Int)))).1).seq) (b := 2) (c := (((hdP (readS p la ([] : List (Int × Bs)) (x + (i : Int)))).1).seq) % 2) rfl rfl (by omega) ((Int.tmod_eq_emod_of_nonneg (by first | exact Int.natCast_nonneg _ | omega))) ?_)
            refine s_on 49 rfl (congrArg Value.bool h79) (o_move (v := (.int .i64 (i : Int))) rfl ?_)
            refine s_on 49 rfl (congrArg Value.bool h79) (o_eql (a := (((hdP (readS p la ([] : List (Int × Bs)) (x + (i : Int)))).1).seq) % 2) (b := (i : Int)) rfl rfl ?_)
            refine s_op (o_pick_t (u := (.bool (decide ((((hdP (readS p la ([] : List (Int × Bs)) (x + (i : Int)))).1).seq) % 2 = (i : Int))))) ((rfl : _ = _).trans (congrArg Value.bool h79)) rfl ?_)
            refine s_op (o_move (v := (.bool (decide ((((hdP (readS p la ([] : List (Int × Bs)) (x + (i : Int)))).1).seq) % 2 = (i : Int))))) rfl ?_)
            by_cases h80 : (((hdP (readS p la ([] : List (Int × Bs)) (x + (i : Int)))).1).seq) % 2 = (i : Int)
            · -- (((hdP (readS p la ([] : List (Int × Bs)) (x + (i : Int)))).1).seq) % 2 = (i : Int)
              refine s_on 56 rfl (congrArg Value.bool (decide_eq_true h80)) (o_move (v := (.bool fd)) e24_8 ?_)
              refine s_on 56 rfl (congrArg Value.bool (decide_eq_true h80)) (o_not rfl ?_)
              refine s_on 56 rfl (congrArg Value.bool (decide_eq_true h80)) (o_move (v := (.bool (!fd))) rfl ?_)
              rcases Bool.eq_false_or_eq_true (!fd) with h81 | h81
              · -- !fd
                have h81_n : fd = false := by simpa using h81
                refine s_off (b' := true) 59 rfl (congrArg Value.bool h81) rfl ?_
                refine s_off (b' := true) 59 rfl (congrArg Value.bool h81) rfl ?_
                refine s_off (b' := true) 59 rfl (congrArg Value.bool h81) rfl ?_
                refine s_off (b' := true) 59 rfl (congrArg Value.bool h81) rfl ?_
                refine s_off (b' := true) 59 rfl (congrArg Value.bool h81) rfl ?_
                refine s_on 56 rfl (congrArg Value.bool (decide_eq_true h80)) (o_pick_t (u := (.bool true)) ((rfl : _ = _).trans (congrArg Value.bool h81)) rfl ?_)
                refine s_op (o_pick_t (u := (.bool true)) ((rfl : _ = _).trans (congrArg Value.bool (decide_eq_true h80))) rfl ?_)
                refine s_nil ?_
                refine t_norm (hK78 _ _ ?_)
                refine c_true rfl rfl ?_
                refine c_region ?_
                refine s_op (o_loadN (cs := [(.int .i64 ((hdP (readS p la ([] : List (Int × Bs)) (x + (i : Int)))).1).seq), (.int .i64 ((hdP (readS p la ([] : List (Int × Bs)) (x + (i : Int)))).1).ep), (.int .i64 ((hdP (readS p la ([] : List (Int × Bs)) (x + (i : Int)))).1).cut), (.int .i64 ((hdP (readS p la ([] : List (Int × Bs)) (x + (i : Int)))).1).st), (.int .i64 ((hdP (readS p la ([] : List (Int × Bs)) (x + (i : Int)))).1).mrk)]) Tryz.underlying27 rfl ti27 rfl hH77 (seg_sub 0 rfl) (CellsAt.one rfl) ?_)
                refine s_eff (o_storeN (vs := [(.int .i64 ((hdP (readS p la ([] : List (Int × Bs)) (x + (i : Int)))).1).seq), (.int .i64 ((hdP (readS p la ([] : List (Int × Bs)) (x + (i : Int)))).1).ep), (.int .i64 ((hdP (readS p la ([] : List (Int × Bs)) (x + (i : Int)))).1).cut), (.int .i64 ((hdP (readS p la ([] : List (Int × Bs)) (x + (i : Int)))).1).st), (.int .i64 ((hdP (readS p la ([] : List (Int × Bs)) (x + (i : Int)))).1).mrk)]) (c' := #[(.int .i64 ((hdP (readS p la ([] : List (Int × Bs)) (x + (i : Int)))).1).seq), (.int .i64 ((hdP (readS p la ([] : List (Int × Bs)) (x + (i : Int)))).1).ep), (.int .i64 ((hdP (readS p la ([] : List (Int × Bs)) (x + (i : Int)))).1).cut), (.int .i64 ((hdP (readS p la ([] : List (Int × Bs)) (x + (i : Int)))).1).st), (.int .i64 ((hdP (readS p la ([] : List (Int × Bs)) (x + (i : Int)))).1).mrk)]) ti27 e24_7 rfl rfl rfl (by intro u hu; simp only [List.mem_cons, List.not_mem_nil, or_false] at hu; rcases hu with rfl | rfl | rfl | rfl | rfl <;> first | rfl) (by simp) (by kernel_rfl) (hH77.front 3 rfl) fun w82 hH83 => ?_)
                refine s_op (o_assign (v := (.bool true)) rfl ?_)
                refine s_nil ?_
                refine b_norm ?_
                refine t_norm (hK32 _ _ ?_)
                refine c_region ?_
                refine s_op (o_add (a := (i : Int)) (b := 1) e24_22 rfl (w64 (by omega) (by omega)) ?_)
                refine s_op (o_move (v := (.int .i64 ((i : Int) + 1))) rfl ?_)
                refine s_nil ?_
                have hH84 : Has E w82 [[Hp.one b17 (.cells #[(.int .i64 ((hdP (readS p la ([] : List (Int × Bs)) (x + (i : Int)))).1).seq), (.int .i64 ((hdP (readS p la ([] : List (Int × Bs)) (x + (i : Int)))).1).ep), (.int .i64 ((hdP (readS p la ([] : List (Int × Bs)) (x + (i : Int)))).1).cut), (.int .i64 ((hdP (readS p la ([] : List (Int × Bs)) (x + (i : Int)))).1).st), (.int .i64 ((hdP (readS p la ([] : List (Int × Bs)) (x + (i : Int)))).1).mrk)] 27 (0, 0))], sg, [Hp.one pb (.cells #[(.bool p.off), (.bool p.armed), (.int .i64 p.left), (.int .i64 p.uses)] 78 (0, 0))], [Hp.one b2 (.cells #[(.int .i64 0), (.int .i64 0), (.int .i64 0), (.int .i64 0), (.int .i64 0)] 27 (0, 0))], R] := (((((hH83.front 5 rfl).front 5 rfl).front 5 rfl).front 5 rfl).front 4 rfl).first 5 rfl
                refine t_norm ⟨2 - (i + 1), _, rfl, ?_, ?_⟩
                · omega
                · exact ⟨(i + 1), ((hdP (readS p la ([] : List (Int × Bs)) (x + (i : Int)))).1), true, false, rfl, hH84, (by omega), (ldG_yes hld hsec_ (by first | (simpa using h11) | (simpa using h31) | (simpa using h40) | (simpa using h42) | (simpa using h79) | (simpa using h80) | (simpa using h81) | (simpa using h81_n)) (by first | exact h11 | exact h31 | exact h40 | exact h42 | exact h79 | exact h80 | exact h81 | exact h81_n) (by first | exact .inr (by omega) | exact .inl (by simpa using h11) | exact .inl (by simpa using h31) | exact .inl (by simpa using h40) | exact .inl (by simpa using h42) | exact .inl (by simpa using h79) | exact .inl (by simpa using h80) | exact .inl (by simpa using h81) | exact .inl (by simpa using h81_n))), ((blG_step hbl hsec_ hsl_).trans (by first | rfl | (rw [h42]; rfl) | simp [h42])), e24_0, e24_1, e24_4, e24_6, e24_7, rfl, rfl, e24_19, rfl⟩
              · -- not: !fd
                have h81_n : fd = true := by simpa using h81
                refine s_on 59 rfl (congrArg Value.bool h81) (o_fieldAddr (k := 0) (fun _ => by kernel_rfl) rfl ?_)
                refine s_on 59 rfl (congrArg Value.bool h81) (o_load1 (v := (.int .i64 ((hdP (readS p la ([] : List (Int × Bs)) (x + (i : Int)))).1).seq)) Tryz.underlying3 rfl rfl hH77 (seg_sub 0 rfl) (CellsAt.one rfl) ?_)
                refine s_on 59 rfl (congrArg Value.bool h81) (o_fieldAddr (k := 0) (fun _ => by kernel_rfl) e24_7 ?_)
                refine s_on 59 rfl (congrArg Value.bool h81) (o_load1 (v := (.int .i64 bh.seq)) Tryz.underlying3 rfl rfl hH77 (seg_sub 3 rfl) (CellsAt.one rfl) ?_)
                refine s_on 59 rfl (congrArg Value.bool h81) (o_gtr (a := ((hdP (readS p la ([] : List (Int × Bs)) (x + (i : Int)))).1).seq) (b := bh.seq) rfl rfl ?_)
                refine s_on 56 rfl (congrArg Value.bool (decide_eq_true h80)) (o_pick_f (u := (.bool (decide (bh.seq < ((hdP (readS p la ([] : List (Int × Bs)) (x + (i : Int)))).1).seq)))) ((rfl : _ = _).trans (congrArg Value.bool h81)) rfl ?_)
                refine s_op (o_pick_t (u := (.bool (decide (bh.seq < ((hdP (readS p la ([] : List (Int × Bs)) (x + (i : Int)))).1).seq)))) ((rfl : _ = _).trans (congrArg Value.bool (decide_eq_true h80))) rfl ?_)
                refine s_nil ?_
                refine t_norm (hK78 _ _ ?_)
                refine c_cond rfl (fun h85 => ?_) (fun h85 => ?_)
                · -- bh.seq < ((hdP (readS p la ([] : List (Int × Bs)) (x + (i : Int)))).1).seq
                  refine c_region ?_
                  refine s_op (o_loadN (cs := [(.int .i64 ((hdP (readS p la ([] : List (Int × Bs)) (x + (i : Int)))).1).seq), (.int .i64 ((hdP (readS p la ([] : List (Int × Bs)) (x + (i : Int)))).1).ep), (.int .i64 ((hdP (readS p la ([] : List (Int × Bs)) (x + (i : Int)))).1).cut), (.int .i64 ((hdP (readS p la ([] : List (Int × Bs)) (x + (i : Int)))).1).st), (.int .i64 ((hdP (readS p la ([] : List (Int × Bs)) (x + (i : Int)))).1).mrk)]) Tryz.underlying27 rfl ti27 rfl hH77 (seg_sub 0 rfl) (CellsAt.one rfl) ?_)
                  refine s_eff (o_storeN (vs := [(.int .i64 ((hdP (readS p la ([] : List (Int × Bs)) (x + (i : Int)))).1).seq), (.int .i64 ((hdP (readS p la ([] : List (Int × Bs)) (x + (i : Int)))).1).ep), (.int .i64 ((hdP (readS p la ([] : List (Int × Bs)) (x + (i : Int)))).1).cut), (.int .i64 ((hdP (readS p la ([] : List (Int × Bs)) (x + (i : Int)))).1).st), (.int .i64 ((hdP (readS p la ([] : List (Int × Bs)) (x + (i : Int)))).1).mrk)]) (c' := #[(.int .i64 ((hdP (readS p la ([] : List (Int × Bs)) (x + (i : Int)))).1).seq), (.int .i64 ((hdP (readS p la ([] : List (Int × Bs)) (x + (i : Int)))).1).ep), (.int .i64 ((hdP (readS p la ([] : List (Int × Bs)) (x + (i : Int)))).1).cut), (.int .i64 ((hdP (readS p la ([] : List (Int × Bs)) (x + (i : Int)))).1).st), (.int .i64 ((hdP (readS p la ([] : List (Int × Bs)) (x + (i : Int)))).1).mrk)]) ti27 e24_7 rfl rfl rfl (by intro u hu; simp only [List.mem_cons, List.not_mem_nil, or_false] at hu; rcases hu with rfl | rfl | rfl | rfl | rfl <;> first | rfl) (by simp) (by kernel_rfl) (hH77.front 3 rfl) fun w86 hH87 => ?_)
                  refine s_op (o_assign (v := (.bool true)) rfl ?_)
                  refine s_nil ?_
                  refine b_norm ?_
                  refine t_norm (hK32 _ _ ?_)
                  refine c_region ?_
                  refine s_op (o_add (a := (i : Int)) (b := 1) e24_22 rfl (w64 (by omega) (by omega)) ?_)
                  refine s_op (o_move (v := (.int .i64 ((i : Int) + 1))) rfl ?_)
                  refine s_nil ?_
                  have hH88 : Has E w86 [[Hp.one b17 (.cells #[(.int .i64 ((hdP (readS p la ([] : List (Int × Bs)) (x + (i : Int)))).1).seq), (.int .i64 ((hdP (readS p la ([] : List (Int × Bs)) (x + (i : Int)))).1).ep), (.int .i64 ((hdP (readS p la ([] : List (Int × Bs)) (x + (i : Int)))).1).cut), (.int .i64 ((hdP (readS p la ([] : List (Int × Bs)) (x + (i : Int)))).1).st), (.int .i64 ((hdP (readS p la ([] : List (Int × Bs)) (x + (i : Int)))).1).mrk)] 27 (0, 0))], sg, [Hp.one pb (.cells #[(.bool p.off), (.bool p.armed), (.int .i64 p.left), (.int .i64 p.uses)] 78 (0, 0))], [Hp.one b2 (.cells #[(.int .i64 0), (.int .i64 0), (.int .i64 0), (.int .i64 0), (.int .i64 0)] 27 (0, 0))], R] := (((((hH87.front 5 rfl).front 5 rfl).front 5 rfl).front 5 rfl).front 4 rfl).first 5 rfl
                  refine t_norm ⟨2 - (i + 1), _, rfl, ?_, ?_⟩
                  · omega
                  · exact ⟨(i + 1), ((hdP (readS p la ([] : List (Int × Bs)) (x + (i : Int)))).1), true, false, rfl, hH88, (by omega), (ldG_yes hld hsec_ (by first | (simpa using h11) | (simpa using h31) | (simpa using h40) | (simpa using h42) | (simpa using h79) | (simpa using h80) | (simpa using h81) | (simpa using h81_n) | (simpa using h85)) (by first | exact h11 | exact h31 | exact h40 | exact h42 | exact h79 | exact h80 | exact h81 | exact h81_n | exact h85) (by first | exact .inr (by omega) | exact .inl (by simpa using h11) | exact .inl (by simpa using h31) | exact .inl (by simpa using h40) | exact .inl (by simpa using h42) | exact .inl (by simpa using h79) | exact .inl (by simpa using h80) | exact .inl (by simpa using h81) | exact .inl (by simpa using h81_n) | exact .inl (by simpa using h85))), ((blG_step hbl hsec_ hsl_).trans (by first | rfl | (rw [h42]; rfl) | simp [h42])), e24_0, e24_1, e24_4, e24_6, e24_7, rfl, rfl, e24_19, rfl⟩
                · -- not: bh.seq < ((hdP (readS p la ([] : List (Int × Bs)) (x + (i : Int)))).1).seq
                  refine wp_skip ?_
                  refine b_norm ?_
                  refine t_norm (hK32 _ _ ?_)
                  refine c_region ?_
                  refine s_op (o_add (a := (i : Int)) (b := 1) e24_22 rfl (w64 (by omega) (by omega)) ?_)
                  refine s_op (o_move (v := (.int .i64 ((i : Int) + 1))) rfl ?_)
                  refine s_nil ?_
                  have hH89 : Has E w76 [[Hp.one b17 (.cells #[(.int .i64 bh.seq), (.int .i64 bh.ep), (.int .i64 bh.cut), (.int .i64 bh.st), (.int .i64 bh.mrk)] 27 (0, 0))], sg, [Hp.one pb (.cells #[(.bool p.off), (.bool p.armed), (.int .i64 p.left), (.int .i64 p.uses)] 78 (0, 0))], [Hp.one b2 (.cells #[(.int .i64 0), (.int .i64 0), (.int .i64 0), (.int .i64 0), (.int .i64 0)] 27 (0, 0))], R] := (((((hH77.front 5 rfl).front 5 rfl).front 4 rfl).front 4 rfl).front 5 rfl).first 5 rfl
                  refine t_norm ⟨2 - (i + 1), _, rfl, ?_, ?_⟩
                  · omega
                  · exact ⟨(i + 1), bh, fd, false, rfl, hH89, (by omega), (ldG_no hld hsec_ (.inr (.inr ⟨by first | (simpa using h11) | (simpa using h31) | (simpa using h40) | (simpa using h42) | (simpa using h79) | (simpa using h80) | (simpa using h81) | (simpa using h81_n) | (simpa using h85), by omega⟩))), ((blG_step hbl hsec_ hsl_).trans (by first | rfl | (rw [h42]; rfl) | simp [h42])), e24_0, e24_1, e24_4, e24_6, e24_7, e24_8, rfl, e24_19, rfl⟩
            · -- not: (((hdP (readS p la ([] : List (Int × Bs)) (x + (i : Int)))).1).seq) % 2 = (i : Int)
              refine s_off (b' := false) 56 rfl (congrArg Value.bool (decide_eq_false h80)) rfl ?_
              refine s_off (b' := false) 56 rfl (congrArg Value.bool (decide_eq_false h80)) rfl ?_
              refine s_off (b' := false) 56 rfl (congrArg Value.bool (decide_eq_false h80)) rfl ?_
              refine s_offu 59 rfl rfl ?_
              refine s_offu 59 rfl rfl ?_
              refine s_offu 59 rfl rfl ?_
              refine s_offu 59 rfl rfl ?_
              refine s_offu 59 rfl rfl ?_
              refine s_off (b' := false) 56 rfl (congrArg Value.bool (decide_eq_false h80)) rfl ?_
              refine s_op (o_pick_f (u := (.bool false)) ((rfl : _ = _).trans (congrArg Value.bool (decide_eq_false h80))) rfl ?_)
              refine s_nil ?_
              refine t_norm (hK78 _ _ ?_)
              refine c_false rfl rfl ?_
              refine wp_skip ?_
              refine b_norm ?_
              refine t_norm (hK32 _ _ ?_)
              refine c_region ?_
              refine s_op (o_add (a := (i : Int)) (b := 1) e24_22 rfl (w64 (by omega) (by omega)) ?_)
              refine s_op (o_move (v := (.int .i64 ((i : Int) + 1))) rfl ?_)
              refine s_nil ?_
              have hH90 : Has E w76 [[Hp.one b17 (.cells #[(.int .i64 bh.seq), (.int .i64 bh.ep), (.int .i64 bh.cut), (.int .i64 bh.st), (.int .i64 bh.mrk)] 27 (0, 0))], sg, [Hp.one pb (.cells #[(.bool p.off), (.bool p.armed), (.int .i64 p.left), (.int .i64 p.uses)] 78 (0, 0))], [Hp.one b2 (.cells #[(.int .i64 0), (.int .i64 0), (.int .i64 0), (.int .i64 0), (.int .i64 0)] 27 (0, 0))], R] := (((((hH77.front 5 rfl).front 5 rfl).front 4 rfl).front 4 rfl).front 5 rfl).first 5 rfl
              refine t_norm ⟨2 - (i + 1), _, rfl, ?_, ?_⟩
              · omega
              · exact ⟨(i + 1), bh, fd, false, rfl, hH90, (by omega), (ldG_no hld hsec_ (by first | exact .inl (by simpa using h11) | exact .inr (.inl h11) | exact .inl (by simpa using h31) | exact .inr (.inl h31) | exact .inl (by simpa using h40) | exact .inr (.inl h40) | exact .inl (by simpa using h42) | exact .inr (.inl h42) | exact .inl (by simpa using h79) | exact .inr (.inl h79) | exact .inl (by simpa using h80) | exact .inr (.inl h80))), ((blG_step hbl hsec_ hsl_).trans (by first | rfl | (rw [h42]; rfl) | simp [h42])), e24_0, e24_1, e24_4, e24_6, e24_7, e24_8, rfl, e24_19, rfl⟩
          · -- not: (hdP (readS p la ([] : List (Int × Bs)) (x + (i : Int)))).2
            refine s_off (b' := false) 49 rfl (congrArg Value.bool h79) rfl ?_
            refine s_off (b' := false) 49 rfl (congrArg Value.bool h79) rfl ?_
            refine s_off (b' := false) 49 rfl (congrArg Value.bool h79) rfl ?_
            refine s_off (b' := false) 49 rfl (congrArg Value.bool h79) rfl ?_
            refine s_off (b' := false) 49 rfl (congrArg Value.bool h79) rfl ?_
            refine s_op (o_pick_f (u := (.bool false)) ((rfl : _ = _).trans (congrArg Value.bool h79)) rfl ?_)
            refine s_op (o_move (v := (.bool false)) rfl ?_)
            refine s_off (b' := false) 56 rfl rfl rfl ?_
            refine s_off (b' := false) 56 rfl rfl rfl ?_
            refine s_off (b' := false) 56 rfl rfl rfl ?_
            refine s_offu 59 rfl rfl ?_
            refine s_offu 59 rfl rfl ?_
            refine s_offu 59 rfl rfl ?_
            refine s_offu 59 rfl rfl ?_
            refine s_offu 59 rfl rfl ?_
            refine s_off (b' := false) 56 rfl rfl rfl ?_
            refine s_op (o_pick_f (u := (.bool false)) rfl rfl ?_)
            refine s_nil ?_
            refine t_norm (hK78 _ _ ?_)
            refine c_false rfl rfl ?_
            refine wp_skip ?_
            refine b_norm ?_
            refine t_norm (hK32 _ _ ?_)
            refine c_region ?_
            refine s_op (o_add (a := (i : Int)) (b := 1) e24_22 rfl (w64 (by omega) (by omega)) ?_)
            refine s_op (o_move (v := (.int .i64 ((i : Int) + 1))) rfl ?_)
            refine s_nil ?_
            have hH91 : Has E w76 [[Hp.one b17 (.cells #[(.int .i64 bh.seq), (.int .i64 bh.ep), (.int .i64 bh.cut), (.int .i64 bh.st), (.int .i64 bh.mrk)] 27 (0, 0))], sg, [Hp.one pb (.cells #[(.bool p.off), (.bool p.armed), (.int .i64 p.left), (.int .i64 p.uses)] 78 (0, 0))], [Hp.one b2 (.cells #[(.int .i64 0), (.int .i64 0), (.int .i64 0), (.int .i64 0), (.int .i64 0)] 27 (0, 0))], R] := (((((hH77.front 5 rfl).front 5 rfl).front 4 rfl).front 4 rfl).front 5 rfl).first 5 rfl
            refine t_norm ⟨2 - (i + 1), _, rfl, ?_, ?_⟩
            · omega
            · exact ⟨(i + 1), bh, fd, false, rfl, hH91, (by omega), (ldG_no hld hsec_ (by first | exact .inl (by simpa using h11) | exact .inr (.inl h11) | exact .inl (by simpa using h31) | exact .inr (.inl h31) | exact .inl (by simpa using h40) | exact .inr (.inl h40) | exact .inl (by simpa using h42) | exact .inr (.inl h42) | exact .inl (by simpa using h79) | exact .inr (.inl h79))), ((blG_step hbl hsec_ hsl_).trans (by first | rfl | (rw [h42]; rfl) | simp [h42])), e24_0, e24_1, e24_4, e24_6, e24_7, e24_8, rfl, e24_19, rfl⟩
    · -- not: (i : Int) < 2
      refine wp_exit ?_
      refine t_exit (t_exit (x_in (?_)))
      refine t_norm (hK21 _ _ ?_)
      refine wp_seq_k fun K92 hK92 => ?_
      refine wp_block ?_
      refine wp_seq_k fun K93 hK93 => ?_
      refine c_region ?_
      refine s_op (o_move (v := (.bool fd)) e24_8 ?_)
      refine s_op (o_assign (v := (.bool fd)) rfl ?_)
      refine s_nil ?_
      refine t_norm (hK93 _ _ ?_)
      refine c_condb rfl (fun h94 => ?_) (fun h94 => ?_)
      · -- fd
        refine wp_seq_k fun K95 hK95 => ?_
        refine c_region ?_
        refine s_op (o_loadN (cs := [(.int .i64 bh.seq), (.int .i64 bh.ep), (.int .i64 bh.cut), (.int .i64 bh.st), (.int .i64 bh.mrk)]) Tryz.underlying27 rfl ti27 e24_7 hH27 (seg_sub 0 rfl) (CellsAt.one rfl) ?_)
        refine s_eff (o_storeN (vs := [(.int .i64 bh.seq), (.int .i64 bh.ep), (.int .i64 bh.cut), (.int .i64 bh.st), (.int .i64 bh.mrk)]) (c' := #[(.int .i64 bh.seq), (.int .i64 bh.ep), (.int .i64 bh.cut), (.int .i64 bh.st), (.int .i64 bh.mrk)]) ti27 e24_4 rfl rfl rfl (by intro u hu; simp only [List.mem_cons, List.not_mem_nil, or_false] at hu; rcases hu with rfl | rfl | rfl | rfl | rfl <;> first | rfl) (by simp) (by kernel_rfl) (hH27.front 3 rfl) fun w96 hH97 => ?_)
        refine s_op (o_assign (v := (.int .i64 0)) rfl ?_)
        refine s_nil ?_
        refine t_norm (hK95 _ _ ?_)
        refine wp_ret ?_
        refine b_ret (t_ret (c_retC2 Tryz.results19 e24_4 (run_loadVarN (cs := [(.int .i64 bh.seq), (.int .i64 bh.ep), (.int .i64 bh.cut), (.int .i64 bh.st), (.int .i64 bh.mrk)]) Tryz.underlying27 rfl ti27 hH97 (seg_sub 0 rfl) (CellsAt.one rfl)) (x := (.int .i64 0)) rfl ?_))
        have hH98 : Has E w96 [sg, [Hp.one pb (.cells #[(.bool p.off), (.bool p.armed), (.int .i64 p.left), (.int .i64 p.uses)] 78 (0, 0))], R] := (((hH97.front 4 rfl).front 4 rfl).front 4 rfl).first 3 rfl
        have ei_ : i = 2 := by omega
        subst ei_
        obtain ⟨e1_, e2_⟩ := ld_two hth_.1 hth_.2
        rw [hld] at e1_ e2_
        rw [hbl] at e2_
        exact ⟨by rw [e1_, e2_]; simp only [h94]; rfl, hH98⟩
      · -- not: fd
        refine wp_seq_k fun K99 hK99 => ?_
        refine c_region ?_
        refine s_op (o_move (v := (.bool bl)) e24_9 ?_)
        refine s_op (o_assign (v := (.bool bl)) rfl ?_)
        refine s_nil ?_
        refine t_norm (hK99 _ _ ?_)
        refine c_condb rfl (fun h100 => ?_) (fun h100 => ?_)
        · -- bl
          refine wp_seq_k fun K101 hK101 => ?_
          refine c_region ?_
          refine s_op (o_sight (v := (.agg #[(.int .i64 0), (.int .i64 0), (.int .i64 0), (.int .i64 0), (.int .i64 0)])) (fun _ => by kernel_rfl) ?_)
          refine s_eff (o_storeN (vs := [(.int .i64 0), (.int .i64 0), (.int .i64 0), (.int .i64 0), (.int .i64 0)]) (c' := #[(.int .i64 0), (.int .i64 0), (.int .i64 0), (.int .i64 0), (.int .i64 0)]) ti27 e24_4 rfl rfl rfl (by intro u hu; simp only [List.mem_cons, List.not_mem_nil, or_false] at hu; rcases hu with rfl | rfl | rfl | rfl | rfl <;> first | rfl) (by simp) (by kernel_rfl) (hH27.front 3 rfl) fun w102 hH103 => ?_)
          refine s_op (o_assign (v := (.int .i64 7)) rfl ?_)
          refine s_nil ?_
          refine t_norm (hK101 _ _ ?_)
          refine wp_ret ?_
          refine b_ret (t_ret (c_retC2 Tryz.results19 e24_4 (run_loadVarN (cs := [(.int .i64 0), (.int .i64 0), (.int .i64 0), (.int .i64 0), (.int .i64 0)]) Tryz.underlying27 rfl ti27 hH103 (seg_sub 0 rfl) (CellsAt.one rfl)) (x := (.int .i64 7)) rfl ?_))
          have hH104 : Has E w102 [sg, [Hp.one pb (.cells #[(.bool p.off), (.bool p.armed), (.int .i64 p.left), (.int .i64 p.uses)] 78 (0, 0))], R] := (((hH103.front 4 rfl).front 4 rfl).front 4 rfl).first 3 rfl
          have ei_ : i = 2 := by omega
          subst ei_
          obtain ⟨e1_, e2_⟩ := ld_two hth_.1 hth_.2
          rw [hld] at e1_ e2_
          rw [hbl] at e2_
          exact ⟨by rw [e1_, e2_]; simp only [h94, h100]; rfl, hH104⟩
        · -- not: bl
          refine wp_skip ?_
          refine b_norm ?_
          refine t_norm (hK92 _ _ ?_)
          refine wp_seq_k fun K105 hK105 => ?_
          refine c_region ?_
          refine s_op (o_sight (v := (.agg #[(.int .i64 0), (.int .i64 0), (.int .i64 0), (.int .i64 0), (.int .i64 0)])) (fun _ => by kernel_rfl) ?_)
          refine s_eff (o_storeN (vs := [(.int .i64 0), (.int .i64 0), (.int .i64 0), (.int .i64 0), (.int .i64 0)]) (c' := #[(.int .i64 0), (.int .i64 0), (.int .i64 0), (.int .i64 0), (.int .i64 0)]) ti27 e24_4 rfl rfl rfl (by intro u hu; simp only [List.mem_cons, List.not_mem_nil, or_false] at hu; rcases hu with rfl | rfl | rfl | rfl | rfl <;> first | rfl) (by simp) (by kernel_rfl) (hH27.front 3 rfl) fun w106 hH107 => ?_)
          refine s_op (o_assign (v := (.int .i64 9)) rfl ?_)
          refine s_nil ?_
          refine t_norm (hK105 _ _ ?_)
          refine wp_ret ?_
          refine c_retC2 Tryz.results19 e24_4 (run_loadVarN (cs := [(.int .i64 0), (.int .i64 0), (.int .i64 0), (.int .i64 0), (.int .i64 0)]) Tryz.underlying27 rfl ti27 hH107 (seg_sub 0 rfl) (CellsAt.one rfl)) (x := (.int .i64 9)) rfl ?_
          have hH108 : Has E w106 [sg, [Hp.one pb (.cells #[(.bool p.off), (.bool p.armed), (.int .i64 p.left), (.int .i64 p.uses)] 78 (0, 0))], R] := (((hH107.front 4 rfl).front 4 rfl).front 4 rfl).first 3 rfl
          have ei_ : i = 2 := by omega
          subst ei_
          obtain ⟨e1_, e2_⟩ := ld_two hth_.1 hth_.2
          rw [hld] at e1_ e2_
          rw [hbl] at e2_
          exact ⟨by rw [e1_, e2_]; simp only [h94, h100]; rfl, hH108⟩
end Go.Q
namespace Go.Q
open Go.Proofs
set_option linter.unusedVariables false
set_option maxRecDepth 100000
attribute [local irreducible] wpList OK Code.wp
theorem hsave_ok {E w : World} {R sg : List Hp} {pb db : Nat} {p : Pw} {la : List Bs} (hH : Has E w [sg, [Hp.one pb (.cells #[(.bool p.off), (.bool p.armed), (.int .i64 p.left), (.int .i64 p.uses)] 78 (0, 0))], R]) (hd : DevAt pb sg db la []) (hg : CellsAt R 0 0 nibV) (hp : PwOk p) (hq : PwOk (useS p)) (hla : la.length ≤ 4096) {x : Int} {h : Hd} (hT : svTry la.length x h) (hb : useB p = true) (hb2 : useB (useS p) = true) :
    Calls Tryz.prog 26 #[.pointer (some ⟨db, 0, none⟩), .int .i64 x, .agg #[(.int .i64 h.seq), (.int .i64 h.ep), (.int .i64 h.cut), (.int .i64 h.st), (.int .i64 h.mrk)]] w fun e w' => ∃ sg', e = .returned (.tuple #[.agg #[(.int .i64 (hdUp h).seq), (.int .i64 (hdUp h).ep), (.int .i64 (hdUp h).cut), (.int .i64 (hdUp h).st), (.int .i64 (hdUp h).mrk)], .int .i64 0]) ∧ DevAt pb sg' db (la.set (svN x h).toNat (hdL (hdUp h))) [] ∧ Has E w' [sg', [Hp.one pb (.cells #[(.bool (useS (useS p)).off), (.bool (useS (useS p)).armed), (.int .i64 (useS (useS p)).left), (.int .i64 (useS (useS p)).uses)] 78 (0, 0))], R] := by
  have h_ := hsave_c hH hd hg hp hq hla x (h := h)
  obtain ⟨e1, e2, e3, e4, e5⟩ := sv_done hT hb hb2
  rw [e1, e2, e3, e4, e5] at h_
  exact h_
theorem hsave_no {E w : World} {R sg : List Hp} {pb db : Nat} {p : Pw} {la : List Bs} (hH : Has E w [sg, [Hp.one pb (.cells #[(.bool p.off), (.bool p.armed), (.int .i64 p.left), (.int .i64 p.uses)] 78 (0, 0))], R]) (hd : DevAt pb sg db la []) (hg : CellsAt R 0 0 nibV) (hp : PwOk p) (hq : PwOk (useS p)) (hla : la.length ≤ 4096) {x : Int} {h : Hd} (hT : ¬ svTry la.length x h) :
    Calls Tryz.prog 26 #[.pointer (some ⟨db, 0, none⟩), .int .i64 x, .agg #[(.int .i64 h.seq), (.int .i64 h.ep), (.int .i64 h.cut), (.int .i64 h.st), (.int .i64 h.mrk)]] w fun e w' => ∃ sg', e = .returned (.tuple #[.agg #[(.int .i64 hdZ.seq), (.int .i64 hdZ.ep), (.int .i64 hdZ.cut), (.int .i64 hdZ.st), (.int .i64 hdZ.mrk)], .int .i64 1]) ∧ DevAt pb sg' db la [] ∧ Has E w' [sg', [Hp.one pb (.cells #[(.bool p.off), (.bool p.armed), (.int .i64 p.left), (.int .i64 p.uses)] 78 (0, 0))], R] := by
  have h_ := hsave_c hH hd hg hp hq hla x (h := h)
  obtain ⟨e1, e2, e3, e4, e5⟩ := sv_no (p := p) hT
  rw [e1, e2, e3, e4, e5] at h_
  exact h_
theorem hsave_late {E w : World} {R sg : List Hp} {pb db : Nat} {p : Pw} {la : List Bs} (hH : Has E w [sg, [Hp.one pb (.cells #[(.bool p.off), (.bool p.armed), (.int .i64 p.left), (.int .i64 p.uses)] 78 (0, 0))], R]) (hd : DevAt pb sg db la []) (hg : CellsAt R 0 0 nibV) (hp : PwOk p) (hq : PwOk (useS p)) (hla : la.length ≤ 4096) {x : Int} {h : Hd} (hT : svTry la.length x h) (hb : ¬ (useB p = true ∧ useB (useS p) = true)) :
    Calls Tryz.prog 26 #[.pointer (some ⟨db, 0, none⟩), .int .i64 x, .agg #[(.int .i64 h.seq), (.int .i64 h.ep), (.int .i64 h.cut), (.int .i64 h.st), (.int .i64 h.mrk)]] w fun e w' => ∃ sg' p' lo', e = .returned (.tuple #[.agg #[(.int .i64 hdZ.seq), (.int .i64 hdZ.ep), (.int .i64 hdZ.cut), (.int .i64 hdZ.st), (.int .i64 hdZ.mrk)], .int .i64 6]) ∧ (p' = useS p ∨ p' = useS (useS p)) ∧ (lo' = [] ∨ lo' = [(svN x h, hdL (hdUp h))]) ∧ DevAt pb sg' db la lo' ∧ Has E w' [sg', [Hp.one pb (.cells #[(.bool p'.off), (.bool p'.armed), (.int .i64 p'.left), (.int .i64 p'.uses)] 78 (0, 0))], R] := by
  have h_ := hsave_c hH hd hg hp hq hla x (h := h)
  cases b1 : useB p with
  | false =>
    obtain ⟨e1, e2, e3, e4, e5⟩ := sv_off hT b1
    rw [e1, e2, e3, e4, e5] at h_
    exact h_.mono fun e w' ⟨sg', h1, h2, h3⟩ => ⟨sg', _, _, h1, .inl rfl, .inl rfl, h2, h3⟩
  | true =>
    cases b2 : useB (useS p) with
    | true => exact absurd ⟨b1, b2⟩ hb
    | false =>
      obtain ⟨e1, e2, e3, e4, e5⟩ := sv_late hT b1 b2
      rw [e1, e2, e3, e4, e5] at h_
      exact h_.mono fun e w' ⟨sg', h1, h2, h3⟩ => ⟨sg', _, _, h1, .inr rfl, .inr rfl, h2, h3⟩
theorem put0_d {E w : World} {R sg : List Hp} {pb db : Nat} {p : Pw} {la : List Bs} (hH : Has E w [sg, [Hp.one pb (.cells #[(.bool p.off), (.bool p.armed), (.int .i64 p.left), (.int .i64 p.uses)] 78 (0, 0))], R]) (hd : DevAt pb sg db la []) (n : Int) (s : Bs) (hs : s.length ≤ 1000000000) :
    Calls Tryz.prog 16 #[.pointer (some ⟨db, 0, none⟩), .int .i64 n, (S s)] w fun e w' => ∃ sg', e = .returned (.int .i64 (putE la.length n s)) ∧ DevAt pb sg' db (putA la n s) [] ∧ Has E w' [sg', [Hp.one pb (.cells #[(.bool p.off), (.bool p.armed), (.int .i64 p.left), (.int .i64 p.uses)] 78 (0, 0))], R] := by
  have h_ := put_d hH hd n s hs
  simp only [putO_nil] at h_
  exact h_
end Go.Q
namespace Go.Q
theorem S_beq' (a b : List UInt8) : ((⟨a.toArray⟩ : ByteArray).toList == (⟨b.toArray⟩ : ByteArray).toList) = decide (a = b) := by
  rw [bytes_toList, bytes_toList]
  by_cases h : a = b
  · subst h; simp
  · rw [decide_eq_false h]; simpa using h
theorem int_beq' (a b : Int) : (a == b) = decide (a = b) := by
  by_cases h : a = b
  · subst h; simp
  · rw [decide_eq_false h]; simpa using h
theorem bool_beq' (a b : Bool) : (a == b) = decide (a = b) := by cases a <;> cases b <;> rfl
theorem part1 {P : Program} {t : TypeId} {d : TypeDesc} (ht : P.underlying t = some d) (hd : aggB d = false) {xs : Array Value} {o : Nat} {v : Value} (hv : xs[o]? = some v) (w : World) : (part t xs o).run P w = .ok v w := by
  unfold part
  rw [Sem.run_bind, run_isAgg ht, hd]
  simp [hv]
theorem partN {P : Program} {t : TypeId} {d : TypeDesc} {z : Value} {sz by_ : Nat} (ht : P.underlying t = some d) (hd : aggB d = true) (hi : TI P t z sz by_) {xs ys : Array Value} {o : Nat} (hv : xs.extract o (o + sz) = ys) (w : World) : (part t xs o).run P w = .ok (.agg ys) w := by
  unfold part
  rw [Sem.run_bind, run_isAgg ht, hd]
  simp only [Result.andThen_ok, if_true, Sem.run_bind, hi.size, Sem.run_pure, hv]
theorem eqC_nil {P : Program} {d : Nat} {xs ys : Array Value} {w : World} : (Op.eqFields d xs ys []).run P w = .ok true w := rfl
theorem eqC_cons {P : Program} {d : Nat} {xs ys : Array Value} {f : Field} {fs : List Field} {a b : Value} {r r' : Bool} {w : World} {ft fo : Nat} (h : (f.type, f.offset, f.name == "_") = (ft, fo, false)) (ha : (part ft xs fo).run P w = .ok a w) (hb : (part ft ys fo).run P w = .ok b w)
    (he : (Op.equalIn d ft a b).run P w = .ok r w) (hk : (Op.eqFields d xs ys fs).run P w = .ok r' w) : (Op.eqFields d xs ys (f :: fs)).run P w = .ok (r && r') w := by
  simp only [Prod.mk.injEq] at h
  obtain ⟨rfl, rfl, hn⟩ := h
  have hn' : f.name ≠ "_" := by simpa using hn
  rw [Op.eqFields, if_pos hn']
  simp only [Sem.run_bind, ha, hb, he, Result.andThen_ok]
  cases r
  · simp
  · simpa using hk
theorem eqC_fields {P : Program} {d : Nat} {xs ys : Array Value} {r : Bool} {w : World} {l : List Field} {m : List (Nat × Nat × Bool)} (hf : l.map (fun f => (f.type, f.offset, f.name == "_")) = m) (h : ∀ l : List Field, l.map (fun f => (f.type, f.offset, f.name == "_")) = m → (Op.eqFields d xs ys l).run P w = .ok r w) :
    (Op.eqFields d xs ys l).run P w = .ok r w := h l hf
theorem eq_int {P : Program} {t : TypeId} {k' : IntKind} (h : P.underlying t = some (.int k')) (d : Nat) (k : IntKind) (a b : Int) (w : World) : (Op.equalIn (d + 1) t (.int k a) (.int k b)).run P w = .ok (decide (a = b)) w := by rw [run_equalIn_int w d t _ _ _ _ h, int_beq']
theorem eq_bool {P : Program} {t : TypeId} (h : P.underlying t = some .bool) (d : Nat) (a b : Bool) (w : World) : (Op.equalIn (d + 1) t (.bool a) (.bool b)).run P w = .ok (decide (a = b)) w := by rw [run_equalIn_bool' w d t _ _ h, bool_beq']
theorem eq_str {P : Program} {t : TypeId} (h : P.underlying t = some .string) (d : Nat) (a b : List UInt8) (w : World) : (Op.equalIn (d + 1) t (S a) (S b)).run P w = .ok (decide (a = b)) w := by
  unfold S; rw [run_equalIn_string w d t _ _ h, S_beq']
end Go.Q
