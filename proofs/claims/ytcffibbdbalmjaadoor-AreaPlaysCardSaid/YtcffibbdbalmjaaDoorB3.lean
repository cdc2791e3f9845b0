/-
  Parts of a walk: what functions of the program compute, each told by a theorem (QDevM, QArea, QDa1, QDa2, QY, QYS, QDevA, QDn1, QDa3, QAreaA, QDa4, QAreaP, QDSh4, QDa5).
-/
import Derived.Test.YtcffibbdbalmjaaDoorB2
import Derived.ChangeArms
import Derived.WideShapes
import Derived.DataElems
import Derived.SizedLaws
import Derived.Shelf.Strings.Trim
set_option linter.unusedVariables false
set_option linter.unusedSimpArgs false
set_option linter.unnecessarySimpa false
namespace Go.Q
-- the power
def useM (q : Pw) : Pw := if q.off = true then q else if q.armed = true ∧ q.left = 0 then ⟨true, q.armed, q.left, q.uses + 1⟩ else ⟨q.off, q.armed, q.left - 1, q.uses + 1⟩
def useMB (q : Pw) : Bool := !q.off && !(q.armed && decide (q.left = 0))
structure PR (k : Nat) (p q : Pw) : Prop where
  off : p.off = q.off
  arm : p.armed = q.armed
  uses : p.uses = q.uses
  left : p.off = false → p.armed = true → p.left = q.left
  u0 : 0 ≤ p.uses
  u1 : p.uses ≤ k
  l0 : -(k : Int) ≤ p.left
  l1 : p.left ≤ 9223372036854775807
  m0 : -(k : Int) ≤ q.left
  m1 : q.left ≤ 9223372036854775807
theorem PR.mono {k m : Nat} {p q : Pw} (h : PR k p q) (hk : k ≤ m) : PR m p q := by
  obtain ⟨h1, h2, h3, h4, h5, h6, h7, h8, h9, h10⟩ := h
  exact ⟨h1, h2, h3, h4, h5, by omega, by omega, h8, by omega, h10⟩
theorem PR.ok {k : Nat} {p q : Pw} (h : PR k p q) (hk : k ≤ 1000000) : PwOk p ∧ PwOk q := by
  obtain ⟨h1, h2, h3, h4, h5, h6, h7, h8, h9, h10⟩ := h
  exact ⟨⟨h5, by omega, by omega, h8⟩, ⟨by omega, by omega, by omega, h10⟩⟩
theorem PR.new : PR 0 (Pw.mk false false 0 0) (Pw.mk false false 0 0) := ⟨rfl, rfl, rfl, fun _ _ => rfl, by decide, by decide, by decide, by decide, by decide, by decide⟩
theorem PR.b {k : Nat} {p q : Pw} (h : PR k p q) : useB p = useMB q := by
  obtain ⟨h1, h2, h3, h4, _⟩ := h
  obtain ⟨o, a, l, u⟩ := p
  obtain ⟨o', a', l', u'⟩ := q
  simp only at h1 h2 h3 h4
  subst h1 h2 h3
  unfold useB useMB useS
  cases o with
  | true => rfl
  | false =>
    cases a with
    | false => rfl
    | true => rw [h4 rfl rfl]; rfl
theorem PR.use {k : Nat} {p q : Pw} (h : PR k p q) : PR (k + 1) (useS p) (useM q) := by
  obtain ⟨h1, h2, h3, h4, h5, h6, h7, h8, h9, h10⟩ := h
  obtain ⟨o, a, l, u⟩ := p
  obtain ⟨o', a', l', u'⟩ := q
  simp only at h1 h2 h3 h4 h5 h6 h7 h8 h9 h10
  subst h1 h2 h3
  unfold useS useM
  cases o with
  | true => exact ⟨rfl, rfl, rfl, (fun g => by cases g), h5, (by show u ≤ _; omega), (by show _ ≤ l; omega), h8, (by show _ ≤ l'; omega), h10⟩
  | false =>
    cases a with
    | false => exact ⟨rfl, rfl, rfl, (fun _ g => by cases g), (by show 0 ≤ u + 1; omega), (by show u + 1 ≤ _; omega), (by show _ ≤ l - 1; omega), (by show l - 1 ≤ _; omega), (by show _ ≤ l' - 1; omega), (by show l' - 1 ≤ _; omega)⟩
    | true =>
      have e := h4 rfl rfl
      subst e
      by_cases g : l = 0
      · subst g; exact ⟨rfl, rfl, rfl, (fun g => by simp at g), (by show 0 ≤ u + 1; omega), (by show u + 1 ≤ _; omega), (by simp; omega), (by simp), (by simp; omega), (by simp)⟩
      · simp only [g, Bool.false_eq_true, if_false, and_false, decide_false, Bool.and_false]
        exact ⟨rfl, rfl, rfl, (fun _ _ => rfl), (by show 0 ≤ u + 1; omega), (by show u + 1 ≤ _; omega), (by show _ ≤ l - 1; omega), (by show l - 1 ≤ _; omega), (by show _ ≤ l - 1; omega), (by show l - 1 ≤ _; omega)⟩
theorem PR.arm' {k : Nat} {p q : Pw} (h : PR k p q) {n : Int} (hn : n ≤ 9223372036854775807) : PR k (armS p n) ⟨q.off, true, max n 0, q.uses⟩ := by
  obtain ⟨h1, h2, h3, h4, h5, h6, h7, h8, h9, h10⟩ := h
  exact ⟨h1, rfl, h3, fun _ _ => rfl, h5, h6, (by show _ ≤ max n 0; omega), (by show max n 0 ≤ _; omega), (by show _ ≤ max n 0; omega), (by show max n 0 ≤ _; omega)⟩
theorem PR.back {k : Nat} {p q : Pw} (h : PR k p q) : PR k (backS p) ⟨false, false, q.left, q.uses⟩ := by
  obtain ⟨h1, h2, h3, h4, h5, h6, h7, h8, h9, h10⟩ := h
  exact ⟨rfl, rfl, h3, (fun _ g => by cases g), h5, h6, h7, h8, h9, h10⟩
-- the device
def nowAt (la : List Bs) (lo : List (Int × Bs)) (j : Nat) : Bs := (getB lo (j : Int)).getD ((la[j]?).getD [])
def nowS (la : List Bs) (lo : List (Int × Bs)) : List Bs := (List.range la.length).map (nowAt la lo)
theorem now_len (la : List Bs) (lo : List (Int × Bs)) : (nowS la lo).length = la.length := by simp [nowS]
theorem now_get {la : List Bs} {lo : List (Int × Bs)} {j : Nat} (hj : j < la.length) : (nowS la lo)[j]? = some (nowAt la lo j) := map_range_get _ hj
structure Sim (la : List Bs) (lo : List (Int × Bs)) (nw : List Bs) (ls : List Int) : Prop where
  ok : LoOk lo la.length
  nd : (lo.map (·.1)).Nodup
  nw : nw = nowS la lo
  ls : ls = keysS lo
theorem keys_sorted {lo : List (Int × Bs)} (h : (lo.map (·.1)).Nodup) : (keysS lo).Pairwise (· < ·) := by
  have h1 : (keysS lo).Pairwise (fun x y => decide (x ≤ y) = true) := List.pairwise_mergeSort (fun a b c => by simp; omega) (fun a b => by simp; omega) _
  have h2 : (keysS lo).Nodup := (List.mergeSort_perm _ _).nodup_iff.2 h
  exact (h1.and h2).imp fun g => by have := g.1; have := g.2; simp at *; omega
theorem Sim.len {la : List Bs} {lo : List (Int × Bs)} {nw : List Bs} {ls : List Int} (h : Sim la lo nw ls) : nw.length = la.length := by rw [h.nw, now_len]
theorem Sim.ls_le {la : List Bs} {lo : List (Int × Bs)} {nw : List Bs} {ls : List Int} (h : Sim la lo nw ls) : ls.length ≤ la.length := by
  have g := nodup_len ls ((List.range la.length).map Int.ofNat) (by rw [h.ls]; exact (List.mergeSort_perm _ _).nodup_iff.2 h.nd) fun x hx => by
    rw [h.ls, keysS_mem] at hx
    have := h.ok.get hx
    unfold inS at this
    exact List.mem_map.2 ⟨x.toNat, List.mem_range.2 (by omega), by show ((x.toNat : Nat) : Int) = _; omega⟩
  rwa [List.length_map, List.length_range] at g
theorem put_nodup {lo : List (Int × Bs)} (h : (lo.map (·.1)).Nodup) (n : Int) (t : Bs) : ((putB lo n t).map (·.1)).Nodup := by
  rw [putB_keys]
  split
  · exact h
  · rename_i g
    exact List.nodup_append.2 ⟨h, by simp, fun a ha b hb => by rw [List.mem_singleton.1 hb]; exact fun e => g (e ▸ ha)⟩
theorem del_nodup {lo : List (Int × Bs)} (h : (lo.map (·.1)).Nodup) (n : Int) : ((delB lo n).map (·.1)).Nodup := h.sublist ((delB_sub n lo).map _)
theorem keys_put {lo : List (Int × Bs)} (h : (lo.map (·.1)).Nodup) (n : Int) (t : Bs) : withS n (!true) (keysS lo) = keysS (putB lo n t) :=
  sorted_eq (with_sorted (keys_sorted h)) (keys_sorted (put_nodup h n t)) fun x => by
    rw [with_mem, keysS_mem, keysS_mem, getB_put, if_pos rfl]
    by_cases e : x = n
    · simp [e]
    · simp [e]
theorem keys_del {lo : List (Int × Bs)} (h : (lo.map (·.1)).Nodup) (n : Int) : withS n (!false) (keysS lo) = keysS (delB lo n) :=
  sorted_eq (with_sorted (keys_sorted h)) (keys_sorted (del_nodup h n)) fun x => by
    rw [with_mem, keysS_mem, keysS_mem, getB_del _ _ _ h, if_neg (by decide)]
    by_cases e : x = n
    · simp [e]
    · simp [e]
theorem now_put {la : List Bs} {lo : List (Int × Bs)} {n : Int} (t : Bs) (hn : inS n la.length) : (nowS la lo).set n.toNat t = nowS la (putB lo n t) := by
  refine List.ext_getElem? fun j => ?_
  rw [List.getElem?_set, now_len]
  obtain ⟨h0, h1⟩ := hn
  by_cases e : n.toNat = j
  · subst e
    rw [if_pos rfl, if_pos (by omega), now_get (by omega)]
    unfold nowAt; rw [getB_put, if_pos (by omega)]; rfl
  · rw [if_neg e]
    rcases Nat.lt_or_ge j la.length with hj | hj
    · rw [now_get hj, now_get hj]; unfold nowAt; rw [getB_put, if_neg (by omega)]
    · rw [List.getElem?_eq_none (by rw [now_len]; exact hj), List.getElem?_eq_none (by rw [now_len]; exact hj)]
theorem now_del {la : List Bs} {lo : List (Int × Bs)} {n : Int} (t : Bs) (hn : inS n la.length) (hd : (lo.map (·.1)).Nodup) : (nowS la lo).set n.toNat t = nowS (la.set n.toNat t) (delB lo n) := by
  refine List.ext_getElem? fun j => ?_
  rw [List.getElem?_set, now_len]
  obtain ⟨h0, h1⟩ := hn
  have hl : (la.set n.toNat t).length = la.length := List.length_set
  by_cases e : n.toNat = j
  · subst e
    rw [if_pos rfl, if_pos (by omega), now_get (by omega)]
    unfold nowAt; rw [getB_del _ _ _ hd, if_pos (by omega), List.getElem?_set, if_pos rfl, if_pos (by omega)]; rfl
  · rw [if_neg e]
    rcases Nat.lt_or_ge j la.length with hj | hj
    · rw [now_get hj, now_get (by omega)]; unfold nowAt; rw [getB_del _ _ _ hd, if_neg (by omega), List.getElem?_set, if_neg e]
    · rw [List.getElem?_eq_none (by rw [now_len]; exact hj), List.getElem?_eq_none (by rw [now_len]; omega)]
theorem now_nil (la : List Bs) : nowS la [] = la := by
  refine List.ext_getElem? fun j => ?_
  rcases Nat.lt_or_ge j la.length with hj | hj
  · rw [now_get hj]; unfold nowAt; simp [getB, hj]
  · rw [List.getElem?_eq_none (by rw [now_len]; exact hj), List.getElem?_eq_none hj]
theorem now_sync {la : List Bs} {lo : List (Int × Bs)} (h : LoOk lo la.length) : settleS lo la (keysS lo) = nowS la lo := by
  refine List.ext_getElem? fun j => ?_
  rcases Nat.lt_or_ge j la.length with hj | hj
  · rw [settle_at h.nn j _ _ hj, now_get hj]
    simp only [keysS_mem]
    unfold nowAt
    cases e : getB lo (j : Int) with
    | none => simp [hj]
    | some s => simp
  · rw [List.getElem?_eq_none (by rw [settle_len]; exact hj), List.getElem?_eq_none (by rw [now_len]; exact hj)]
section
variable {la : List Bs} {lo : List (Int × Bs)} {nw : List Bs} {ls : List Int} (h : Sim la lo nw ls) {p q : Pw} {k : Nat} {n : Int} {s : Bs}
include h
theorem Sim.write_off (hp : PR k p q) (hq : useMB q = false) : Sim la (writeS p la.length lo n s) nw ls ∧ writeE p la.length n s = 6 := by
  have hb : ¬ useB p = true := by rw [hp.b, hq]; decide
  unfold writeS writeE
  rw [if_neg (fun g => hb g.1), if_neg hb]; exact ⟨h, rfl⟩
theorem Sim.write_bad (hp : PR k p q) (hq : useMB q = true) (hc : ¬ (s.length ≤ 64 ∧ inS n la.length)) : Sim la (writeS p la.length lo n s) nw ls ∧ writeE p la.length n s = 1 := by
  have hb : useB p = true := by rw [hp.b, hq]
  unfold writeS writeE
  rw [if_neg (fun g => hc g.2), if_pos hb, if_neg hc]; exact ⟨h, rfl⟩
theorem Sim.write_ok (hp : PR k p q) (hq : useMB q = true) (hs : s.length ≤ 64) (hn : inS n la.length) : Sim la (writeS p la.length lo n s) (nw.set n.toNat (fillS s)) (withS n (!true) ls) ∧ writeE p la.length n s = 0 := by
  have hb : useB p = true := by rw [hp.b, hq]
  unfold writeS writeE
  rw [if_pos ⟨hb, hs, hn⟩, if_pos hb, if_pos ⟨hs, hn⟩]
  exact ⟨⟨h.ok.put hn (fill_len hs), put_nodup h.nd _ _, by rw [h.nw, now_put _ hn], by rw [h.ls, keys_put h.nd]⟩, rfl⟩
theorem Sim.sync_off (hp : PR k p q) (hq : useMB q = false) : Sim (syncA p la lo) (syncO p lo) nw ls ∧ syncE p = 6 ∧ syncA p la lo = la := by
  have hb : ¬ useB p = true := by rw [hp.b, hq]; decide
  unfold syncA syncO syncE
  rw [if_neg hb, if_neg hb, if_neg hb]; exact ⟨h, rfl, rfl⟩
theorem Sim.sync_on (hp : PR k p q) (hq : useMB q = true) : Sim (syncA p la lo) (syncO p lo) nw [] ∧ syncE p = 0 ∧ syncA p la lo = nw := by
  have hb : useB p = true := by rw [hp.b, hq]
  unfold syncA syncO syncE
  rw [if_pos hb, if_pos hb, if_pos hb, now_sync h.ok, ← h.nw]
  exact ⟨⟨LoOk.nil _, List.nodup_nil, (now_nil nw).symm, keys_nil.symm⟩, rfl, rfl⟩
theorem Sim.put_bad (hc : ¬ (s.length ≤ 64 ∧ inS n la.length)) : Sim (putA la n s) (putO la.length lo n s) nw ls ∧ putE la.length n s = 1 ∧ putA la n s = la := by
  unfold putA putO putE
  rw [if_neg hc, if_neg hc, if_neg hc]; exact ⟨h, rfl, rfl⟩
theorem Sim.put_ok (hs : s.length ≤ 64) (hn : inS n la.length) : Sim (putA la n s) (putO la.length lo n s) (nw.set n.toNat (fillS s)) (withS n (!false) ls) ∧ putE la.length n s = 0 ∧ putA la n s = la.set n.toNat (fillS s) := by
  unfold putA putO putE
  rw [if_pos ⟨hs, hn⟩, if_pos ⟨hs, hn⟩, if_pos ⟨hs, hn⟩]
  exact ⟨⟨by rw [List.length_set]; exact h.ok.del n, del_nodup h.nd _, by rw [h.nw, now_del _ hn h.nd], by rw [h.ls, keys_del h.nd]⟩, rfl, rfl⟩
theorem Sim.read_ok {x : Bs} (hp : PR k p q) (hq : q.off = false) (hn : inS n la.length) (hx : nw[n.toNat]? = some x) : readS p la lo n = x ∧ readE p la n = 0 := by
  unfold readS readE
  rw [hp.off, hq, if_pos hn, if_pos hn]
  refine ⟨?_, rfl⟩
  rw [h.nw, now_get (by obtain ⟨h0, h1⟩ := hn; omega)] at hx
  rw [if_neg (by decide), ← Option.some.inj hx]
  unfold nowAt
  rw [show ((n.toNat : Nat) : Int) = n from by obtain ⟨h0, h1⟩ := hn; omega]
  cases getB lo n <;> rfl
end
theorem Sim.read_off {la : List Bs} {lo : List (Int × Bs)} {nw : List Bs} {ls : List Int} {p q : Pw} {k : Nat} {n : Int} (_h : Sim la lo nw ls) (hp : PR k p q) (hq : q.off = true) : readS p la lo n = [] ∧ readE p la n = 6 := by
  unfold readS readE; rw [hp.off, hq]; exact ⟨rfl, rfl⟩
theorem Sim.read_bad {la : List Bs} {lo : List (Int × Bs)} {nw : List Bs} {ls : List Int} {p q : Pw} {k : Nat} {n : Int} (_h : Sim la lo nw ls) (hp : PR k p q) (hq : q.off = false) (hn : ¬ inS n la.length) : readS p la lo n = [] ∧ readE p la n = 1 := by
  unfold readS readE; rw [hp.off, hq, if_neg hn, if_neg hn]; exact ⟨rfl, rfl⟩
/-- what a crash leaves, up to a place -/
def crA (la nw : List Bs) (keep : List Int) (k j : Nat) : Bs := if j < k ∧ (j : Int) ∈ keep then (nw[j]?).getD [] else (la[j]?).getD []
def crN (la nw : List Bs) (keep : List Int) (k j : Nat) : Bs := if j < k then crA la nw keep k j else (nw[j]?).getD []
def crAS (la nw : List Bs) (keep : List Int) (k : Nat) : List Bs := (List.range la.length).map (crA la nw keep k)
def crNS (la nw : List Bs) (keep : List Int) (k : Nat) : List Bs := (List.range la.length).map (crN la nw keep k)
theorem cr_map {la : List Bs} : (List.range la.length).map (fun j => (la[j]?).getD []) = la := by
  refine List.ext_getElem? fun j => ?_
  rcases Nat.lt_or_ge j la.length with hj | hj
  · rw [map_range_get _ hj]; simp [hj]
  · rw [List.getElem?_eq_none (by simp; exact hj), List.getElem?_eq_none hj]
theorem crA_zero {la nw : List Bs} {keep : List Int} : crAS la nw keep 0 = la := by
  unfold crAS; rw [← cr_map (la := la)]
  simp only [List.length_map, List.length_range]
  refine List.map_congr_left fun j hj => ?_
  unfold crA; rw [if_neg (fun g => absurd g.1 (Nat.not_lt_zero _)), cr_map]
theorem crN_zero {la nw : List Bs} {keep : List Int} (h : nw.length = la.length) : crNS la nw keep 0 = nw := by
  have e : crNS la nw keep 0 = (List.range nw.length).map (fun j => (nw[j]?).getD []) := by
    unfold crNS; rw [h]
    refine List.map_congr_left fun j hj => ?_
    unfold crN; rw [if_neg (Nat.not_lt_zero _)]
  rw [e, cr_map]
theorem crA_yes {la nw : List Bs} {keep : List Int} {k : Nat} {x : Bs} (hk : k < la.length) (hm : (k : Int) ∈ keep) (hx : (crNS la nw keep k)[k]? = some x) : (crAS la nw keep k).set k x = crAS la nw keep (k + 1) := by
  unfold crNS at hx
  rw [map_range_get _ hk] at hx
  have hx := Option.some.inj hx
  unfold crN at hx; rw [if_neg (Nat.lt_irrefl _)] at hx
  refine List.ext_getElem? fun j => ?_
  have hl : (crAS la nw keep k).length = la.length := by simp [crAS]
  rw [List.getElem?_set, hl]
  by_cases e : k = j
  · subst e; rw [if_pos rfl, if_pos hk, show (crAS la nw keep (k + 1))[k]? = some (crA la nw keep (k + 1) k) from map_range_get _ hk]
    unfold crA; rw [if_pos ⟨by omega, hm⟩, hx]
  · rw [if_neg e]
    rcases Nat.lt_or_ge j la.length with hj | hj
    · rw [show (crAS la nw keep (k + 1))[j]? = some (crA la nw keep (k + 1) j) from map_range_get _ hj, show (crAS la nw keep k)[j]? = some (crA la nw keep k j) from map_range_get _ hj]
      unfold crA
      by_cases g : j < k
      · simp [g, show j < k + 1 by omega]
      · simp [g, show ¬ j < k + 1 by omega]
    · rw [List.getElem?_eq_none (by rw [hl]; exact hj), List.getElem?_eq_none (by simp [crAS]; exact hj)]
theorem crA_no {la nw : List Bs} {keep : List Int} {k : Nat} (hm : ¬ (k : Int) ∈ keep) : crAS la nw keep k = crAS la nw keep (k + 1) := by
  unfold crAS
  refine List.map_congr_left fun j hj => ?_
  unfold crA
  by_cases e : j = k
  · subst e; simp [hm]
  · by_cases g : j < k
    · simp [g, show j < k + 1 by omega]
    · simp [g, show ¬ j < k + 1 by omega]
theorem crN_step {la nw : List Bs} {keep : List Int} {k : Nat} {x : Bs} (hk : k < la.length) (hx : (crAS la nw keep (k + 1))[k]? = some x) : (crNS la nw keep k).set k x = crNS la nw keep (k + 1) := by
  rw [show (crAS la nw keep (k + 1))[k]? = some (crA la nw keep (k + 1) k) from map_range_get _ hk] at hx
  have hx := Option.some.inj hx
  refine List.ext_getElem? fun j => ?_
  have hl : (crNS la nw keep k).length = la.length := by simp [crNS]
  rw [List.getElem?_set, hl]
  by_cases e : k = j
  · subst e; rw [if_pos rfl, if_pos hk, show (crNS la nw keep (k + 1))[k]? = some (crN la nw keep (k + 1) k) from map_range_get _ hk]
    unfold crN; rw [if_pos (by omega), hx]
  · rw [if_neg e]
    rcases Nat.lt_or_ge j la.length with hj | hj
    · rw [show (crNS la nw keep (k + 1))[j]? = some (crN la nw keep (k + 1) j) from map_range_get _ hj, show (crNS la nw keep k)[j]? = some (crN la nw keep k j) from map_range_get _ hj]
      unfold crN crA
      by_cases g : j < k
      · simp [g, show j < k + 1 by omega]
      · simp [g, show ¬ j < k + 1 by omega]
    · rw [List.getElem?_eq_none (by rw [hl]; exact hj), List.getElem?_eq_none (by simp [crNS]; exact hj)]
theorem cr_len (la nw : List Bs) (keep : List Int) (k : Nat) : (crAS la nw keep k).length = la.length ∧ (crNS la nw keep k).length = la.length := by simp [crAS, crNS]
theorem Sim.crash {la : List Bs} {lo : List (Int × Bs)} {nw : List Bs} {ls : List Int} (h : Sim la lo nw ls) (keep : List Int) :
    crAS la nw keep la.length = settleS lo la keep ∧ crNS la nw keep la.length = settleS lo la keep ∧ Sim (settleS lo la keep) [] (settleS lo la keep) [] := by
  have e : crAS la nw keep la.length = settleS lo la keep := by
    refine List.ext_getElem? fun j => ?_
    rcases Nat.lt_or_ge j la.length with hj | hj
    · rw [show (crAS la nw keep la.length)[j]? = some (crA la nw keep la.length j) from map_range_get _ hj, settle_at h.ok.nn j _ _ hj]
      unfold crA
      rw [h.nw, now_get hj]
      unfold nowAt
      by_cases g : (j : Int) ∈ keep
      · cases e : getB lo (j : Int) with
        | none => simp [hj]
        | some s => simp [hj, g]
      · simp [g, hj]
    · rw [List.getElem?_eq_none (by rw [(cr_len la nw keep la.length).1]; exact hj), List.getElem?_eq_none (by rw [settle_len]; exact hj)]
  refine ⟨e, ?_, ⟨LoOk.nil _, List.nodup_nil, (now_nil _).symm, keys_nil.symm⟩⟩
  rw [← e]
  unfold crNS crAS
  refine List.map_congr_left fun j hj => ?_
  unfold crN; rw [if_pos (List.mem_range.1 hj)]
theorem Sim.new (k : Nat) : Sim (List.replicate k blankS) [] (List.replicate k blankS) [] := ⟨LoOk.nil _, List.nodup_nil, (now_nil _).symm, keys_nil.symm⟩
theorem lasts_at {la : List Bs} {n : Int} {x : Bs} (hn : inS n la.length) (hx : la[n.toNat]? = some x) : lastsS la n = x := by unfold lastsS; rw [if_pos hn, hx]; rfl
end Go.Q
namespace Go.Q
structure Pc where
  sec : Int
  frm : Int
  upto : Int
def pcC (p : Pc) : List Value := [iV p.sec, iV p.frm, iV p.upto]
theorem pcC_len (p : Pc) : (pcC p).length = 3 := rfl
theorem one_pcC (l : List Pc) : ∀ u ∈ l.flatMap pcC, u.oneCell' = true := by
  intro u hu
  obtain ⟨p, _, hp⟩ := List.mem_flatMap.1 hu
  simp only [pcC, List.mem_cons, List.not_mem_nil, or_false] at hp
  rcases hp with rfl | rfl | rfl <;> rfl
def piece1 (fr at_ size : Int) : Pc := ⟨fr + at_ / 64, at_ % 64, min (at_ % 64 + size) 64⟩
def piecesS (fr L : Int) : Nat → Int → Int → List Pc
  | 0, _, _ => []
  | f + 1, at_, size => if size ≤ 0 then [] else piece1 fr at_ size :: piecesS fr L f ((at_ + ((piece1 fr at_ size).upto - (piece1 fr at_ size).frm)) % L) (size - ((piece1 fr at_ size).upto - (piece1 fr at_ size).frm))
theorem piece1_d {fr at_ size : Int} (h0 : 0 ≤ at_) (hs : 0 < size) : 0 < (piece1 fr at_ size).upto - (piece1 fr at_ size).frm ∧ (piece1 fr at_ size).upto - (piece1 fr at_ size).frm ≤ size ∧ 0 ≤ (piece1 fr at_ size).frm ∧ (piece1 fr at_ size).frm < 64 ∧ (piece1 fr at_ size).upto ≤ 64 := by
  unfold piece1; simp only; omega
theorem pieces_fuel (fr L : Int) (hL : 0 < L) : ∀ (f g : Nat) (at_ size : Int), 0 ≤ at_ → size.toNat ≤ f → size.toNat ≤ g → piecesS fr L f at_ size = piecesS fr L g at_ size
  | 0, 0, _, _, _, _, _ => rfl
  | 0, g + 1, at_, size, _, h, _ => by rw [piecesS, piecesS, if_pos (by omega)]
  | f + 1, 0, at_, size, _, _, h => by rw [piecesS, piecesS, if_pos (by omega)]
  | f + 1, g + 1, at_, size, h0, h1, h2 => by
    rw [piecesS, piecesS]
    split
    · rfl
    · obtain ⟨d1, d2, _⟩ := piece1_d (fr := fr) h0 (size := size) (by omega)
      rw [pieces_fuel fr L hL f g _ _ (Int.emod_nonneg _ (by omega)) (by omega) (by omega)]
/-- all pieces -/
def allP (fr L at_ size : Int) : List Pc := piecesS fr L size.toNat at_ size
theorem allP_none {fr L at_ size : Int} (h : size ≤ 0) : allP fr L at_ size = [] := by
  unfold allP; rw [show size.toNat = 0 by omega]; rfl
theorem allP_step {fr L at_ size : Int} (hL : 0 < L) (h0 : 0 ≤ at_) (hs : 0 < size) : allP fr L at_ size = piece1 fr at_ size :: allP fr L ((at_ + ((piece1 fr at_ size).upto - (piece1 fr at_ size).frm)) % L) (size - ((piece1 fr at_ size).upto - (piece1 fr at_ size).frm)) := by
  unfold allP
  obtain ⟨k, hk⟩ : ∃ k, size.toNat = k + 1 := ⟨size.toNat - 1, by omega⟩
  rw [hk, piecesS, if_neg (by omega)]
  obtain ⟨d1, d2, _⟩ := piece1_d (fr := fr) h0 hs
  rw [pieces_fuel fr L hL k (size - ((piece1 fr at_ size).upto - (piece1 fr at_ size).frm)).toNat _ _ (Int.emod_nonneg _ (by omega)) (by omega) (Nat.le_refl _)]
/-- what is known of each piece -/
def PcOk (fr n : Int) (p : Pc) : Prop := fr ≤ p.sec ∧ p.sec < fr + n ∧ 0 ≤ p.frm ∧ p.frm < p.upto ∧ p.upto ≤ 64
theorem pieces_ok {fr n : Int} (hn : 0 < n) : ∀ (f : Nat) (at_ size : Int), 0 ≤ at_ → at_ < n * 64 → ∀ p ∈ piecesS fr (n * 64) f at_ size, PcOk fr n p
  | 0, _, _, _, _, p, hp => by cases hp
  | f + 1, at_, size, h0, h1, p, hp => by
    rw [piecesS] at hp
    split at hp
    · cases hp
    · rcases List.mem_cons.1 hp with rfl | hp
      · obtain ⟨d1, d2, d3, d4, d5⟩ := piece1_d (fr := fr) h0 (size := size) (by omega)
        refine ⟨?_, ?_, d3, by omega, d5⟩
        · show fr ≤ fr + at_ / 64; omega
        · show fr + at_ / 64 < fr + n; omega
      · exact pieces_ok hn f _ _ (Int.emod_nonneg _ (by omega)) (Int.emod_lt_of_pos _ (by omega)) p hp
def plen (ps : List Pc) : Int := (ps.map (fun p => p.upto - p.frm)).foldr (· + ·) 0
theorem pieces_len {fr L : Int} (hL : 0 < L) : ∀ (f : Nat) (at_ size : Int), 0 ≤ at_ → 0 ≤ size → size.toNat ≤ f → plen (piecesS fr L f at_ size) = size
  | 0, at_, size, _, h1, h2 => by show (0 : Int) = size; omega
  | f + 1, at_, size, h0, h1, h2 => by
    rw [piecesS]
    split
    · show (0 : Int) = size; omega
    · obtain ⟨d1, d2, _⟩ := piece1_d (fr := fr) h0 (size := size) (by omega)
      show ((piece1 fr at_ size).upto - (piece1 fr at_ size).frm) + plen (piecesS fr L f _ _) = size
      rw [pieces_len hL f _ _ (Int.emod_nonneg _ (by omega)) (by omega) (by omega)]; omega
theorem pieces_count {fr L : Int} : ∀ (f : Nat) (at_ size : Int), (piecesS fr L f at_ size).length ≤ f
  | 0, _, _ => Nat.le_refl _
  | f + 1, at_, size => by
    rw [piecesS]
    split
    · simp
    · simp only [List.length_cons]; have := pieces_count (fr := fr) (L := L) f ((at_ + ((piece1 fr at_ size).upto - (piece1 fr at_ size).frm)) % L) (size - ((piece1 fr at_ size).upto - (piece1 fr at_ size).frm)); omega
theorem plen_nn : ∀ {ps : List Pc}, (∀ p ∈ ps, p.frm < p.upto) → 0 ≤ plen ps
  | [], _ => Int.le_refl _
  | p :: ps, h => by
    have h1 := plen_nn fun q hq => h q (List.mem_cons_of_mem _ hq)
    have h2 := h p List.mem_cons_self
    show 0 ≤ (p.upto - p.frm) + plen ps
    omega
theorem plen_drop {ps : List Pc} {j : Nat} {x : Pc} {fr n : Int} (hk : ∀ p ∈ ps, PcOk fr n p) (hx : ps[j]? = some x) : plen (ps.drop j) = (x.upto - x.frm) + plen (ps.drop (j + 1)) ∧ 0 ≤ plen (ps.drop (j + 1)) := by
  rw [drop_of hx]
  exact ⟨rfl, plen_nn fun p hp => (hk p (List.mem_of_mem_drop hp)).2.2.2.1⟩
theorem sum2 {a b : Int} (ha : 0 ≤ a ∧ a ≤ 1000000000) (hb : 0 ≤ b ∧ b ≤ 1000000000) : sumS 0 [a, b] = a + b := by
  simp only [sumS]; rw [if_neg (by omega), if_neg (by omega)]; omega
theorem flat_take_le (l : List Bs) (i : Nat) : (l.take i).flatten.length ≤ l.flatten.length := by
  have h : (l.take i ++ l.drop i).flatten.length = l.flatten.length := by rw [List.take_append_drop]
  rw [List.flatten_append, List.length_append] at h; omega
-- what is got
def part (x : Bs) (p : Pc) : Bs := (x.take p.upto.toNat).drop p.frm.toNat
def getP (la : List Bs) (lo : List (Int × Bs)) (ps : List Pc) : Bs := ps.flatMap fun p => part (nowAt la lo p.sec.toNat) p
theorem getP_snoc (la : List Bs) (lo : List (Int × Bs)) (a : List Pc) (p : Pc) : getP la lo (a ++ [p]) = getP la lo a ++ part (nowAt la lo p.sec.toNat) p := by
  unfold getP; rw [List.flatMap_append, List.flatMap_cons, List.flatMap_nil, List.append_nil]
-- what is set
def put1 (la : List Bs) (lo : List (Int × Bs)) (p : Pc) (all : Bs) : Bs := (nowAt la lo p.sec.toNat).take p.frm.toNat ++ (all.take (p.upto - p.frm).toNat ++ (nowAt la lo p.sec.toNat).drop p.upto.toNat)
def setP (la : List Bs) : List Pc → List (Int × Bs) → Bs → List (Int × Bs)
  | [], lo, _ => lo
  | p :: ps, lo, all => setP la ps (putB lo p.sec (fillS (put1 la lo p all))) (all.drop (p.upto - p.frm).toNat)
/-- sectors of 64 bytes -/
def Full64 (la : List Bs) : Prop := ∀ s ∈ la, s.length = 64
theorem nowAt_len {la : List Bs} {lo : List (Int × Bs)} (h : Full64 la) (ho : LoOk lo la.length) {j : Nat} (hj : j < la.length) : (nowAt la lo j).length = 64 := by
  unfold nowAt
  cases e : getB lo (j : Int) with
  | none => rw [List.getElem?_eq_getElem hj]; exact h _ (List.getElem_mem hj)
  | some s =>
    have hm : ∀ (l : List (Int × Bs)), getB l (j : Int) = some s → ∃ k, (k, s) ∈ l := by
      intro l
      induction l with
      | nil => intro h; cases h
      | cons q t ih =>
        obtain ⟨a, u⟩ := q
        intro h
        rw [getB] at h
        split at h
        · cases h; exact ⟨a, List.mem_cons_self⟩
        · obtain ⟨k, hk⟩ := ih h; exact ⟨k, List.mem_cons_of_mem _ hk⟩
    obtain ⟨k, hk⟩ := hm lo e
    exact (ho _ hk).2
theorem put1_len {la : List Bs} {lo : List (Int × Bs)} {p : Pc} {all : Bs} {fr n : Int} (hp : PcOk fr n p) (hx : (nowAt la lo p.sec.toNat).length = 64) (ha : p.upto - p.frm ≤ all.length) : (put1 la lo p all).length = 64 := by
  obtain ⟨h1, h2, h3, h4, h5⟩ := hp
  unfold put1
  simp only [List.length_append, List.length_take, List.length_drop, hx]; omega
theorem setP_other {la : List Bs} {j : Nat} : ∀ (ps : List Pc) (lo : List (Int × Bs)) (all : Bs), (∀ p ∈ ps, p.sec ≠ (j : Int)) → nowAt la (setP la ps lo all) j = nowAt la lo j
  | [], _, _, _ => rfl
  | p :: ps, lo, all, h => by
    rw [setP, setP_other ps _ _ fun q hq => h q (List.mem_cons_of_mem _ hq)]
    unfold nowAt
    rw [getB_put, if_neg (fun e => h p List.mem_cons_self e.symm)]
theorem getP_congr {la : List Bs} {lo lo' : List (Int × Bs)} {ps : List Pc} (h : ∀ p ∈ ps, nowAt la lo p.sec.toNat = nowAt la lo' p.sec.toNat) : getP la lo ps = getP la lo' ps := by
  unfold getP
  induction ps with
  | nil => rfl
  | cons p ps ih =>
    rw [List.flatMap_cons, List.flatMap_cons, h p List.mem_cons_self, ih fun q hq => h q (List.mem_cons_of_mem _ hq)]
theorem read_now {p : Pw} {k : Nat} (h : Calm p k) {la : List Bs} {lo : List (Int × Bs)} {n : Int} (hn : inS n la.length) : readS p la lo n = nowAt la lo n.toNat ∧ readE p la n = 0 := by
  unfold readS readE nowAt
  rw [h.off, if_pos hn, if_pos hn]
  refine ⟨?_, rfl⟩
  rw [if_neg (by decide), show ((n.toNat : Nat) : Int) = n from by obtain ⟨h0, h1⟩ := hn; omega]
  cases getB lo n <;> rfl
theorem write_now {p : Pw} {k : Nat} (h : Calm p k) {m : Nat} {lo : List (Int × Bs)} {n : Int} {s : Bs} (hn : inS n m) (hs : s.length = 64) : writeS p m lo n s = putB lo n (fillS s) ∧ writeE p m n s = 0 := by
  unfold writeS writeE
  rw [if_pos ⟨h.b, by omega, hn⟩, if_pos h.b, if_pos ⟨by omega, hn⟩]; exact ⟨rfl, rfl⟩
end Go.Q
namespace Go.Q
open Go.Proofs
set_option linter.unusedVariables false
set_option maxRecDepth 100000
attribute [local irreducible] wpList OK Code.wp
set_option maxHeartbeats 4000000 in
theorem alen_c {E w : World} {R : List Hp} {ab db : Nat} {fr n : Int} (hH : Has E w [[Hp.one ab (.cells #[(.pointer (some ⟨db, 0, none⟩)), (.int .i64 fr), (.int .i64 n)] 65 (0, 0))], R]) (hn : 1 ≤ n ∧ n ≤ 4096) :
    Calls Tryd.prog 28 #[(.pointer (some ⟨ab, 0, none⟩))] w fun e w' => e = .returned (.int .i64 (n * 64)) ∧ Has E w' [[Hp.one ab (.cells #[(.pointer (some ⟨db, 0, none⟩)), (.int .i64 fr), (.int .i64 n)] 65 (0, 0))], R] := by
  obtain ⟨hn1, hn2⟩ := hn
  refine c_enter (args := [(.pointer (some ⟨ab, 0, none⟩))]) Tryd.func28 rfl Tryd.ntmps28 (by simp) ?_
  refine wp_seq_k fun K1 hK1 => ?_
  refine c_region ?_
  refine s_op (o_assign (v := (.int .i64 0)) rfl ?_)
  refine s_nil ?_
  refine t_norm (hK1 _ _ ?_)
  refine wp_seq_k fun K2 hK2 => ?_
  refine wp_seq_k fun K3 hK3 => ?_
  refine c_region ?_
  refine s_op (o_move (v := (.pointer (some ⟨ab, 0, none⟩))) rfl ?_)
  refine s_op (o_pnil (p := some _) Tryd.underlying52 rfl rfl ?_)
  refine s_nil ?_
  refine t_norm (hK3 _ _ ?_)
  refine c_false rfl rfl ?_
  refine wp_skip ?_
  refine t_norm (hK2 _ _ ?_)
  refine wp_seq_k fun K4 hK4 => ?_
  refine c_region ?_
  refine s_op (o_move (v := (.pointer (some ⟨ab, 0, none⟩))) rfl ?_)
  refine s_op (o_nilCheck rfl ?_)
  refine s_op (o_fieldAddr (k := 2) (fun _ => by kernel_rfl) rfl ?_)
  refine s_op (o_load1 (v := (.int .i64 n)) Tryd.underlying3 rfl rfl hH (seg_sub 0 rfl) (CellsAt.one rfl) ?_)
  refine s_op (o_mul (a := n) (b := 64) rfl rfl (w64 (by omega) (by omega)) ?_)
  refine s_op (o_assign (v := (.int .i64 (n * 64))) rfl ?_)
  refine s_nil ?_
  refine t_norm (hK4 _ _ ?_)
  refine wp_ret ?_
  refine c_ret1 Tryd.results28  (v := (.int .i64 (n * 64))) rfl ?_
  exact ⟨rfl, hH⟩
set_option maxHeartbeats 4000000 in
theorem amay_c {E w : World} {R : List Hp} {ab db : Nat} {fr n : Int} (hH : Has E w [[Hp.one ab (.cells #[(.pointer (some ⟨db, 0, none⟩)), (.int .i64 fr), (.int .i64 n)] 65 (0, 0))], R]) (hn : 1 ≤ n ∧ n ≤ 4096) (at_ size : Int) :
    Calls Tryd.prog 66 #[(.pointer (some ⟨ab, 0, none⟩)), (.int .i64 at_), (.int .i64 size)] w fun e w' => e = .returned (.bool (decide (0 ≤ at_ ∧ at_ ≤ 4611686018427387904 ∧ 0 ≤ size ∧ size ≤ n * 64))) ∧ Has E w' [[Hp.one ab (.cells #[(.pointer (some ⟨db, 0, none⟩)), (.int .i64 fr), (.int .i64 n)] 65 (0, 0))], R] := by
  obtain ⟨hn1, hn2⟩ := hn
  refine c_enter (args := [(.pointer (some ⟨ab, 0, none⟩)), (.int .i64 at_), (.int .i64 size)]) Tryd.func66 rfl Tryd.ntmps66 (by simp) ?_
  refine wp_seq_k fun K1 hK1 => ?_
  refine c_region ?_
  refine s_op (o_assign (v := (.bool false)) rfl ?_)
  refine s_nil ?_
  refine t_norm (hK1 _ _ ?_)
  refine wp_seq_k fun K2 hK2 => ?_
  refine c_region ?_
  refine s_op (o_move (v := (.pointer (some ⟨ab, 0, none⟩))) rfl ?_)
  refine s_op (o_pnnil (p := some _) Tryd.underlying52 rfl rfl ?_)
  refine s_op (o_move (v := (.bool true)) rfl ?_)
  refine s_on 9 rfl rfl (o_move (v := (.int .i64 at_)) rfl ?_)
  refine s_on 9 rfl rfl (o_geq (a := at_) (b := 0) rfl rfl ?_)
  refine s_op (o_pick_t (u := (.bool (decide (0 ≤ at_)))) rfl rfl ?_)
  refine s_op (o_move (v := (.bool (decide (0 ≤ at_)))) rfl ?_)
  by_cases h3 : 0 ≤ at_
  · -- 0 ≤ at_
    refine s_on 13 rfl (congrArg Value.bool (decide_eq_true h3)) (o_move (v := (.int .i64 at_)) rfl ?_)
    refine s_on 13 rfl (congrArg Value.bool (decide_eq_true h3)) (o_leq (a := at_) (b := 4611686018427387904) rfl rfl ?_)
    refine s_op (o_pick_t (u := (.bool (decide (at_ ≤ 4611686018427387904)))) ((rfl : _ = _).trans (congrArg Value.bool (decide_eq_true h3))) rfl ?_)
    refine s_op (o_move (v := (.bool (decide (at_ ≤ 4611686018427387904)))) rfl ?_)
    by_cases h4 : at_ ≤ 4611686018427387904
    · -- at_ ≤ 4611686018427387904
      refine s_on 17 rfl (congrArg Value.bool (decide_eq_true h4)) (o_move (v := (.int .i64 size)) rfl ?_)
      refine s_on 17 rfl (congrArg Value.bool (decide_eq_true h4)) (o_geq (a := size) (b := 0) rfl rfl ?_)
      refine s_op (o_pick_t (u := (.bool (decide (0 ≤ size)))) ((rfl : _ = _).trans (congrArg Value.bool (decide_eq_true h4))) rfl ?_)
      refine s_op (o_move (v := (.bool (decide (0 ≤ size)))) rfl ?_)
      by_cases h5 : 0 ≤ size
      · -- 0 ≤ size
        refine s_on 21 rfl (congrArg Value.bool (decide_eq_true h5)) (o_move (v := (.int .i64 size)) rfl ?_)
        refine s_on 21 rfl (congrArg Value.bool (decide_eq_true h5)) (o_move (v := (.pointer (some ⟨ab, 0, none⟩))) rfl ?_)
        refine s_on 21 rfl (congrArg Value.bool (decide_eq_true h5)) (o_callf (vs := #[(.pointer (some ⟨ab, 0, none⟩))]) ca28 rfl (args1 rfl) (alen_c hH.all1 ⟨by omega, by omega⟩) ?_)
        rintro _ w8 ⟨rfl, hX6⟩
        refine ⟨_, rfl, ?_⟩
        have hH7 : Has E w8 [[Hp.one ab (.cells #[(.pointer (some ⟨db, 0, none⟩)), (.int .i64 fr), (.int .i64 n)] 65 (0, 0))], R] := hX6.of_all1
        refine s_on 21 rfl (congrArg Value.bool (decide_eq_true h5)) (o_leq (a := size) (b := n * 64) rfl rfl ?_)
        refine s_op (o_pick_t (u := (.bool (decide (size ≤ n * 64)))) ((rfl : _ = _).trans (congrArg Value.bool (decide_eq_true h5))) rfl ?_)
        refine s_op (o_assign (v := (.bool (decide (size ≤ n * 64)))) rfl ?_)
        refine s_nil ?_
        refine t_norm (hK2 _ _ ?_)
        refine wp_ret ?_
        refine c_ret1 Tryd.results66  (v := (.bool (decide (size ≤ n * 64)))) rfl ?_
        have e_ : decide (size ≤ n * 64) = decide (0 ≤ at_ ∧ at_ ≤ 4611686018427387904 ∧ 0 ≤ size ∧ size ≤ n * 64) := by first | (simp [h3, h4, h5]; done) | (rw [eq_comm, decide_eq_false_iff_not]; omega) | (rw [eq_comm, decide_eq_true_iff]; omega) | (congr 1; apply propext; constructor <;> intro _ <;> first | omega | (refine ⟨?_, ?_, ?_, ?_⟩ <;> omega))
        exact ⟨by rw [← e_], hH7⟩
      · -- not: 0 ≤ size
        refine s_off (b' := false) 21 rfl (congrArg Value.bool (decide_eq_false h5)) rfl ?_
        refine s_off (b' := false) 21 rfl (congrArg Value.bool (decide_eq_false h5)) rfl ?_
        refine s_off (b' := false) 21 rfl (congrArg Value.bool (decide_eq_false h5)) rfl ?_
        refine s_off (b' := false) 21 rfl (congrArg Value.bool (decide_eq_false h5)) rfl ?_
        refine s_op (o_pick_f (u := (.bool false)) ((rfl : _ = _).trans (congrArg Value.bool (decide_eq_false h5))) rfl ?_)
        refine s_op (o_assign (v := (.bool false)) rfl ?_)
        refine s_nil ?_
        refine t_norm (hK2 _ _ ?_)
        refine wp_ret ?_
        refine c_ret1 Tryd.results66  (v := (.bool false)) rfl ?_
        have e_ : false = decide (0 ≤ at_ ∧ at_ ≤ 4611686018427387904 ∧ 0 ≤ size ∧ size ≤ n * 64) := by first | (simp [h3, h4, h5]; done) | (rw [eq_comm, decide_eq_false_iff_not]; omega) | (rw [eq_comm, decide_eq_true_iff]; omega) | (congr 1; apply propext; constructor <;> intro _ <;> first | omega | (refine ⟨?_, ?_, ?_, ?_⟩ <;> omega))
        exact ⟨by rw [← e_], hH⟩
    · -- not: at_ ≤ 4611686018427387904
      refine s_off (b' := false) 17 rfl (congrArg Value.bool (decide_eq_false h4)) rfl ?_
      refine s_off (b' := false) 17 rfl (congrArg Value.bool (decide_eq_false h4)) rfl ?_
      refine s_op (o_pick_f (u := (.bool false)) ((rfl : _ = _).trans (congrArg Value.bool (decide_eq_false h4))) rfl ?_)
      refine s_op (o_move (v := (.bool false)) rfl ?_)
      refine s_off (b' := false) 21 rfl rfl rfl ?_
      refine s_off (b' := false) 21 rfl rfl rfl ?_
      refine s_off (b' := false) 21 rfl rfl rfl ?_
      refine s_off (b' := false) 21 rfl rfl rfl ?_
      refine s_op (o_pick_f (u := (.bool false)) rfl rfl ?_)
      refine s_op (o_assign (v := (.bool false)) rfl ?_)
      refine s_nil ?_
      refine t_norm (hK2 _ _ ?_)
      refine wp_ret ?_
      refine c_ret1 Tryd.results66  (v := (.bool false)) rfl ?_
      have e_ : false = decide (0 ≤ at_ ∧ at_ ≤ 4611686018427387904 ∧ 0 ≤ size ∧ size ≤ n * 64) := by first | (simp [h3, h4]; done) | (rw [eq_comm, decide_eq_false_iff_not]; omega) | (rw [eq_comm, decide_eq_true_iff]; omega) | (congr 1; apply propext; constructor <;> intro _ <;> first | omega | (refine ⟨?_, ?_, ?_, ?_⟩ <;> omega))
      exact ⟨by rw [← e_], hH⟩
  · -- not: 0 ≤ at_
    refine s_off (b' := false) 13 rfl (congrArg Value.bool (decide_eq_false h3)) rfl ?_
    refine s_off (b' := false) 13 rfl (congrArg Value.bool (decide_eq_false h3)) rfl ?_
    refine s_op (o_pick_f (u := (.bool false)) ((rfl : _ = _).trans (congrArg Value.bool (decide_eq_false h3))) rfl ?_)
    refine s_op (o_move (v := (.bool false)) rfl ?_)
    refine s_off (b' := false) 17 rfl rfl rfl ?_
    refine s_off (b' := false) 17 rfl rfl rfl ?_
    refine s_op (o_pick_f (u := (.bool false)) rfl rfl ?_)
    refine s_op (o_move (v := (.bool false)) rfl ?_)
    refine s_off (b' := false) 21 rfl rfl rfl ?_
    refine s_off (b' := false) 21 rfl rfl rfl ?_
    refine s_off (b' := false) 21 rfl rfl rfl ?_
    refine s_off (b' := false) 21 rfl rfl rfl ?_
    refine s_op (o_pick_f (u := (.bool false)) rfl rfl ?_)
    refine s_op (o_assign (v := (.bool false)) rfl ?_)
    refine s_nil ?_
    refine t_norm (hK2 _ _ ?_)
    refine wp_ret ?_
    refine c_ret1 Tryd.results66  (v := (.bool false)) rfl ?_
    have e_ : false = decide (0 ≤ at_ ∧ at_ ≤ 4611686018427387904 ∧ 0 ≤ size ∧ size ≤ n * 64) := by first | (simp [h3]; done) | (rw [eq_comm, decide_eq_false_iff_not]; omega) | (rw [eq_comm, decide_eq_true_iff]; omega) | (congr 1; apply propext; constructor <;> intro _ <;> first | omega | (refine ⟨?_, ?_, ?_, ?_⟩ <;> omega))
    exact ⟨by rw [← e_], hH⟩
set_option maxHeartbeats 4000000 in
theorem pieces_c {E w : World} {R : List Hp} {ab db : Nat} {fr n : Int} (hH : Has E w [[Hp.one ab (.cells #[(.pointer (some ⟨db, 0, none⟩)), (.int .i64 fr), (.int .i64 n)] 65 (0, 0))], R]) (hn : 1 ≤ n ∧ n ≤ 4096) (hfr : 0 ≤ fr ∧ fr ≤ 4096) {at_ size : Int} (hat : 0 ≤ at_ ∧ at_ ≤ 4611686018427387904) (hsz : 0 ≤ size ∧ size ≤ n * 64) :
    Calls Tryd.prog 69 #[(.pointer (some ⟨ab, 0, none⟩)), (.int .i64 at_), (.int .i64 size)] w fun e w' => ∃ v' hs', e = .returned v' ∧ Own 116 3 v' (allP fr (n * 64) (at_ % (n * 64)) size).length ((allP fr (n * 64) (at_ % (n * 64)) size).flatMap pcC) hs' ∧ Has E w' [hs', [Hp.one ab (.cells #[(.pointer (some ⟨db, 0, none⟩)), (.int .i64 fr), (.int .i64 n)] 65 (0, 0))], R] := by
  obtain ⟨hn1, hn2⟩ := hn
  obtain ⟨hfr1, hfr2⟩ := hfr
  obtain ⟨hat1, hat2⟩ := hat
  obtain ⟨hsz1, hsz2⟩ := hsz
  refine c_enter (args := [(.pointer (some ⟨ab, 0, none⟩)), (.int .i64 at_), (.int .i64 size)]) Tryd.func69 rfl Tryd.ntmps69 (by simp) ?_
  refine wp_seq_k fun K1 hK1 => ?_
  refine c_region ?_
  refine s_op (o_assign (v := (.slice none 0 0)) rfl ?_)
  refine s_nil ?_
  refine t_norm (hK1 _ _ ?_)
  refine wp_seq_k fun K2 hK2 => ?_
  refine c_region ?_
  refine s_op (o_assign (v := (.slice none 0 0)) rfl ?_)
  refine s_nil ?_
  refine t_norm (hK2 _ _ ?_)
  refine wp_seq_k fun K3 hK3 => ?_
  refine wp_seq_k fun K4 hK4 => ?_
  refine c_region ?_
  refine s_op (o_move (v := (.int .i64 at_)) rfl ?_)
  refine s_op (o_move (v := (.pointer (some ⟨ab, 0, none⟩))) rfl ?_)
  refine s_op (o_callf (vs := #[(.pointer (some ⟨ab, 0, none⟩))]) ca28 rfl (args1 rfl) (alen_c hH.all1 ⟨by omega, by omega⟩) ?_)
  rintro _ w7 ⟨rfl, hX5⟩
  refine ⟨_, rfl, ?_⟩
  have hH6 : Has E w7 [[Hp.one ab (.cells #[(.pointer (some ⟨db, 0, none⟩)), (.int .i64 fr), (.int .i64 n)] 65 (0, 0))], R] := hX5.of_all1
  have hm8 := emod_b at_ (n * 64) (by omega)
  refine s_op (o_rem (a := at_) (b := n * 64) (c := at_ % (n * 64)) rfl rfl (by omega) ((Int.tmod_eq_emod_of_nonneg (by first | exact Int.natCast_nonneg _ | omega))) ?_)
  refine s_op (o_assign (v := (.int .i64 (at_ % (n * 64)))) rfl ?_)
  refine s_nil ?_
  refine t_norm (hK4 _ _ ?_)
  refine wp_block ?_
  let I10 : Nat → (Nat → Value) → World → Prop := fun n__ r__ w__ => ∃ (a : Int) (z : Int) (va : Value) (ha : List Hp) (acc : List Pc), n__ = z.toNat ∧ Has E w__ [ha, [Hp.one ab (.cells #[(.pointer (some ⟨db, 0, none⟩)), (.int .i64 fr), (.int .i64 n)] 65 (0, 0))], R] ∧ (0 ≤ z ∧ z ≤ size) ∧ (0 ≤ a ∧ a < n * 64) ∧ (Own 116 3 va acc.length (acc.flatMap pcC) ha) ∧ ((acc.length : Int) + z ≤ size) ∧ (allP fr (n * 64) (at_ % (n * 64)) size = acc ++ allP fr (n * 64) a z) ∧ r__ 0 = (.pointer (some ⟨ab, 0, none⟩)) ∧ r__ 1 = (.int .i64 a) ∧ r__ 2 = (.int .i64 z) ∧ r__ 6 = (.slice none 0 0) ∧ r__ 7 = va
  have hH11 : Has E w7 [[], [Hp.one ab (.cells #[(.pointer (some ⟨db, 0, none⟩)), (.int .i64 fr), (.int .i64 n)] 65 (0, 0))], R] := (Has.nil ((hH6.front 1 rfl).front 1 rfl)).first 3 rfl
  refine c_loop I10 _ ⟨(at_ % (n * 64)), size, (.slice none 0 0), [], [], rfl, hH11, ⟨by omega, by omega⟩, ⟨Int.emod_nonneg _ (by omega), Int.emod_lt_of_pos _ (by omega)⟩, Own.nil 116 3, (by simp), rfl, rfl, rfl, rfl, rfl, rfl⟩ ?_
  rintro n_ r14 w12 ⟨a, z, va, ha, acc, rfl, hH13, hz, ha_, hoa, hct, hacc, e9_0, e9_1, e9_2, e9_6, e9_7⟩
  refine wp_seq_k fun K15 hK15 => ?_
  refine wp_seq_k fun K16 hK16 => ?_
  refine c_region ?_
  refine s_op (o_move (v := (.int .i64 z)) e9_2 ?_)
  refine s_op (o_gtr (a := z) (b := 0) rfl rfl ?_)
  refine s_nil ?_
  refine t_norm (hK16 _ _ ?_)
  refine c_cond rfl (fun h17 => ?_) (fun h17 => ?_)
  · -- 0 < z
    refine wp_skip ?_
    refine t_norm (hK15 _ _ ?_)
    refine wp_seq_k fun K18 hK18 => ?_
    refine wp_block ?_
    refine wp_seq_k fun K19 hK19 => ?_
    refine c_region ?_
    refine s_op (o_move (v := (.pointer (some ⟨ab, 0, none⟩))) e9_0 ?_)
    refine s_op (o_nilCheck rfl ?_)
    refine s_op (o_fieldAddr (k := 1) (fun _ => by kernel_rfl) rfl ?_)
    refine s_op (o_load1 (v := (.int .i64 fr)) Tryd.underlying3 rfl rfl hH13 (seg_sub 1 rfl) (CellsAt.one rfl) ?_)
    refine s_op (o_move (v := (.int .i64 a)) e9_1 ?_)
    refine s_op (o_quo (a := a) (b := 64) (c := a / 64) rfl rfl (by omega) (by rw [(Int.tdiv_eq_ediv_of_nonneg (by first | exact Int.natCast_nonneg _ | omega))]; exact w64 (by omega) (by omega)) ?_)
    refine s_op (o_add (a := fr) (b := a / 64) rfl rfl (w64 (by omega) (by omega)) ?_)
    refine s_op (o_move (v := (.int .i64 a)) e9_1 ?_)
    refine s_op (o_rem (a := a) (b := 64) (c := a % 64) rfl rfl (by omega) ((Int.tmod_eq_emod_of_nonneg (by first | exact Int.natCast_nonneg _ | omega))) ?_)
    refine s_op (o_sight (v := (.agg #[(.int .i64 (fr + (a / 64))), (.int .i64 (a % 64)), (.int .i64 0)])) (fun _ => by kernel_rfl) ?_)
    refine s_op (o_alloc (cs := #[(.int .i64 0), (.int .i64 0), (.int .i64 0)]) ti116 rfl hH13 fun b20 w21 hH22 => ?_)
    refine s_eff (o_storeN (vs := [(.int .i64 (fr + (a / 64))), (.int .i64 (a % 64)), (.int .i64 0)]) (c' := #[(.int .i64 (fr + (a / 64))), (.int .i64 (a % 64)), (.int .i64 0)]) ti116 rfl rfl rfl rfl (by intro u hu; simp only [List.mem_cons, List.not_mem_nil, or_false] at hu; rcases hu with rfl | rfl | rfl <;> first | rfl) (by simp) (by kernel_rfl) (hH22.front 0 rfl) fun w23 hH24 => ?_)
    refine s_nil ?_
    refine t_norm (hK19 _ _ ?_)
    refine wp_seq_k fun K25 hK25 => ?_
    refine c_region ?_
    refine s_op (o_fieldAddr (k := 1) (fun _ => by kernel_rfl) rfl ?_)
    refine s_op (o_load1 (v := (.int .i64 (a % 64))) Tryd.underlying3 rfl rfl hH24 (seg_sub 0 rfl) (CellsAt.one rfl) ?_)
    refine s_op (o_move (v := (.int .i64 z)) e9_2 ?_)
    refine s_op (o_add (a := a % 64) (b := z) rfl rfl (w64 (by omega) (by omega)) ?_)
    refine s_op (o_min (a := (a % 64) + z) (b := 64) rfl rfl ?_)
    refine s_op (o_fieldAddr (k := 2) (fun _ => by kernel_rfl) rfl ?_)
    refine s_eff (o_store1 (c' := #[(.int .i64 (fr + (a / 64))), (.int .i64 (a % 64)), (.int .i64 (min ((a % 64) + z) 64))]) ti3 rfl rfl rfl (by simp) rfl (hH24.front 0 rfl) fun w26 hH27 => ?_)
    refine s_nil ?_
    refine t_norm (hK25 _ _ ?_)
    refine wp_seq_k fun K28 hK28 => ?_
    refine c_region ?_
    refine s_op (o_move (v := va) e9_7 ?_)
    refine s_op (o_loadN (cs := [(.int .i64 (fr + (a / 64))), (.int .i64 (a % 64)), (.int .i64 (min ((a % 64) + z) 64))]) Tryd.underlying116 rfl ti116 rfl hH27 (seg_sub 0 rfl) (CellsAt.one rfl) ?_)
    refine s_op (o_buildSlice (ps := #[(0, (.agg #[(.int .i64 (fr + (a / 64))), (.int .i64 (a % 64)), (.int .i64 (min ((a % 64) + z) 64))]))]) (cells := #[(.int .i64 (fr + (a / 64))), (.int .i64 (a % 64)), (.int .i64 (min ((a % 64) + z) 64))]) Tryd.underlying113 ti116 (by decide) (parts1 rfl) (by kernel_rfl) hH27 fun b29 w30 hH31 => ?_)
    refine s_op (o_append Tryd.underlying113 ti116 rfl (by decide) rfl hoa rfl (sl_litF (f := pcC) (l := [(Pc.mk (fr + (a / 64)) (a % 64) (min ((a % 64) + z) 64))]) pcC_len rfl rfl (by simp)) (hH31.front 2 rfl) (seg_sub 0 rfl) (one_pcC _) (by simp; omega) (by simp; omega) fun v32 s33 w35 ho34 hH36 => ?_)
    have ho34 : Own 116 3 v32 (acc ++ [(Pc.mk (fr + (a / 64)) (a % 64) (min ((a % 64) + z) 64))]).length ((acc ++ [(Pc.mk (fr + (a / 64)) (a % 64) (min ((a % 64) + z) 64))]).flatMap pcC) s33 := ho34.appF
    refine s_op (o_assign (v := v32) rfl ?_)
    refine s_nil ?_
    refine t_norm (hK28 _ _ ?_)
    refine wp_seq_k fun K37 hK37 => ?_
    refine c_region ?_
    refine s_op (o_move (v := (.int .i64 a)) e9_1 ?_)
    refine s_op (o_fieldAddr (k := 2) (fun _ => by kernel_rfl) rfl ?_)
    refine s_op (o_load1 (v := (.int .i64 (min ((a % 64) + z) 64))) Tryd.underlying3 rfl rfl hH36 (seg_sub 2 rfl) (CellsAt.one rfl) ?_)
    refine s_op (o_fieldAddr (k := 1) (fun _ => by kernel_rfl) rfl ?_)
    refine s_op (o_load1 (v := (.int .i64 (a % 64))) Tryd.underlying3 rfl rfl hH36 (seg_sub 2 rfl) (CellsAt.one rfl) ?_)
    refine s_op (o_sub (a := min ((a % 64) + z) 64) (b := a % 64) rfl rfl (w64 (by omega) (by omega)) ?_)
    refine s_op (o_add (a := a) (b := (min ((a % 64) + z) 64) - (a % 64)) rfl rfl (w64 (by omega) (by omega)) ?_)
    refine s_op (o_assign (v := (.int .i64 (a + ((min ((a % 64) + z) 64) - (a % 64))))) rfl ?_)
    refine s_nil ?_
    refine t_norm (hK37 _ _ ?_)
    refine c_region ?_
    refine s_op (o_move (v := (.int .i64 z)) e9_2 ?_)
    refine s_op (o_fieldAddr (k := 2) (fun _ => by kernel_rfl) rfl ?_)
    refine s_op (o_load1 (v := (.int .i64 (min ((a % 64) + z) 64))) Tryd.underlying3 rfl rfl hH36 (seg_sub 2 rfl) (CellsAt.one rfl) ?_)
    refine s_op (o_fieldAddr (k := 1) (fun _ => by kernel_rfl) rfl ?_)
    refine s_op (o_load1 (v := (.int .i64 (a % 64))) Tryd.underlying3 rfl rfl hH36 (seg_sub 2 rfl) (CellsAt.one rfl) ?_)
    refine s_op (o_sub (a := min ((a % 64) + z) 64) (b := a % 64) rfl rfl (w64 (by omega) (by omega)) ?_)
    refine s_op (o_sub (a := z) (b := (min ((a % 64) + z) 64) - (a % 64)) rfl rfl (w64 (by omega) (by omega)) ?_)
    refine s_op (o_assign (v := (.int .i64 (z - ((min ((a % 64) + z) 64) - (a % 64))))) rfl ?_)
    refine s_nil ?_
    refine b_norm ?_
    refine t_norm (hK18 _ _ ?_)
    refine c_region ?_
    refine s_op (o_move (v := (.int .i64 (a + ((min ((a % 64) + z) 64) - (a % 64))))) rfl ?_)
    refine s_op (o_move (v := (.pointer (some ⟨ab, 0, none⟩))) e9_0 ?_)
    refine s_op (o_callf (vs := #[(.pointer (some ⟨ab, 0, none⟩))]) ca28 rfl (args1 rfl) (alen_c (hH36.front 3 rfl).all1 ⟨by omega, by omega⟩) ?_)
    rintro _ w40 ⟨rfl, hX38⟩
    refine ⟨_, rfl, ?_⟩
    have hH39 : Has E w40 [[Hp.one ab (.cells #[(.pointer (some ⟨db, 0, none⟩)), (.int .i64 fr), (.int .i64 n)] 65 (0, 0))], s33, [Hp.one b29 (.cells #[(.int .i64 (fr + (a / 64))), (.int .i64 (a % 64)), (.int .i64 (min ((a % 64) + z) 64))] 116 (0, 0))], [Hp.one b20 (.cells #[(.int .i64 (fr + (a / 64))), (.int .i64 (a % 64)), (.int .i64 (min ((a % 64) + z) 64))] 116 (0, 0))], R] := hX38.of_all1
    have hm41 := emod_b (a + ((min ((a % 64) + z) 64) - (a % 64))) (n * 64) (by omega)
    refine s_op (o_rem (a := a + ((min ((a % 64) + z) 64) - (a % 64))) (b := n * 64) (c := (a + ((min ((a % 64) + z) 64) - (a % 64))) % (n * 64)) rfl rfl (by omega) ((Int.tmod_eq_emod_of_nonneg (by first | exact Int.natCast_nonneg _ | omega))) ?_)
    refine s_op (o_assign (v := (.int .i64 ((a + ((min ((a % 64) + z) 64) - (a % 64))) % (n * 64)))) rfl ?_)
    refine s_nil ?_
    have hH42 : Has E w40 [s33, [Hp.one ab (.cells #[(.pointer (some ⟨db, 0, none⟩)), (.int .i64 fr), (.int .i64 n)] 65 (0, 0))], R] := (((hH39.front 4 rfl).front 1 rfl).front 2 rfl).first 3 rfl
    refine t_norm ⟨(z - ((min ((a % 64) + z) 64) - (a % 64))).toNat, _, rfl, ?_, ?_⟩
    · omega
    · exact ⟨((a + ((min ((a % 64) + z) 64) - (a % 64))) % (n * 64)), (z - ((min ((a % 64) + z) 64) - (a % 64))), v32, s33, (acc ++ [(Pc.mk (fr + (a / 64)) (a % 64) (min ((a % 64) + z) 64))]), rfl, hH42, (⟨by omega, by omega⟩), (⟨Int.emod_nonneg _ (by omega), Int.emod_lt_of_pos _ (by omega)⟩), (ho34), (by simp only [List.length_append, List.length_cons, List.length_nil]; omega), (by rw [hacc, allP_step (by omega) ha_.1 (by omega)]; exact (List.append_assoc acc [piece1 fr a z] (allP _ _ _ _)).symm), e9_0, rfl, rfl, e9_6, rfl⟩
  · -- not: 0 < z
    refine wp_exit ?_
    refine t_exit (t_exit (x_in (?_)))
    refine t_norm (hK3 _ _ ?_)
    refine wp_seq_k fun K43 hK43 => ?_
    refine c_region ?_
    refine s_op (o_move (v := va) e9_7 ?_)
    refine s_op (o_assign (v := va) rfl ?_)
    refine s_nil ?_
    refine t_norm (hK43 _ _ ?_)
    refine wp_ret ?_
    refine c_ret1 Tryd.results69  (v := va) rfl ?_
    have e_ : allP fr (n * 64) a z = [] := allP_none (by omega)
    rw [e_, List.append_nil] at hacc
    exact ⟨_, _, rfl, by rw [hacc]; exact hoa, hH13⟩
end Go.Q
namespace Go.Q
open Go.Proofs
set_option linter.unusedVariables false
set_option maxRecDepth 100000
attribute [local irreducible] wpList OK Code.wp
set_option maxHeartbeats 4000000 in
theorem aget_c {E w : World} {R sg : List Hp} {ab db pb k : Nat} {fr n : Int} {p : Pw} {la : List Bs} {lo : List (Int × Bs)} (hH : Has E w [sg, [Hp.one pb (.cells #[(.bool p.off), (.bool p.armed), (.int .i64 p.left), (.int .i64 p.uses)] 104 (0, 0))], [Hp.one ab (.cells #[(.pointer (some ⟨db, 0, none⟩)), (.int .i64 fr), (.int .i64 n)] 65 (0, 0))], R]) (hd : DevAt pb sg db la lo) (hp : Calm p k) (hk : k ≤ 100000) (h64 : Full64 la) (hlo : LoOk lo la.length) (hfr : 0 ≤ fr) (hn : 1 ≤ n) (hfn : fr + n ≤ la.length) (hla : la.length ≤ 4096) {at_ : Int} (hat : 0 ≤ at_ ∧ at_ ≤ 4611686018427387904) {size : Int} (hsz : 0 ≤ size ∧ size ≤ n * 64) :
    Calls Tryd.prog 32 #[(.pointer (some ⟨ab, 0, none⟩)), (.int .i64 at_), (.int .i64 size)] w fun e w' => e = .returned (.tuple #[S (getP la lo (allP fr (n * 64) (at_ % (n * 64)) size)), .int .i64 0]) ∧ Has E w' [sg, [Hp.one pb (.cells #[(.bool p.off), (.bool p.armed), (.int .i64 p.left), (.int .i64 p.uses)] 104 (0, 0))], [Hp.one ab (.cells #[(.pointer (some ⟨db, 0, none⟩)), (.int .i64 fr), (.int .i64 n)] 65 (0, 0))], R] := by
  obtain ⟨hat1, hat2⟩ := hat
  obtain ⟨hsz1, hsz2⟩ := hsz
  refine c_enter (args := [(.pointer (some ⟨ab, 0, none⟩)), (.int .i64 at_), (.int .i64 size)]) Tryd.func32 rfl Tryd.ntmps32 (by simp) ?_
  refine wp_seq_k fun K1 hK1 => ?_
  refine c_region ?_
  refine s_op (o_assign (v := (S ([] : List UInt8))) rfl ?_)
  refine s_op (o_assign (v := (.int .i64 0)) rfl ?_)
  refine s_nil ?_
  refine t_norm (hK1 _ _ ?_)
  refine wp_seq_k fun K2 hK2 => ?_
  refine wp_seq_k fun K3 hK3 => ?_
  refine c_region ?_
  refine s_op (o_move (v := (.pointer (some ⟨ab, 0, none⟩))) rfl ?_)
  refine s_op (o_move (v := (.int .i64 at_)) rfl ?_)
  refine s_op (o_move (v := (.int .i64 size)) rfl ?_)
  refine s_op (o_callf (vs := #[(.pointer (some ⟨ab, 0, none⟩)), (.int .i64 at_), (.int .i64 size)]) ca66 rfl (args3 rfl rfl rfl) (amay_c (hH.front 2 rfl).all1 ⟨by omega, by omega⟩ at_ size) ?_)
  rintro _ w6 ⟨rfl, hX4⟩
  refine ⟨_, rfl, ?_⟩
  have hH5 : Has E w6 [[Hp.one ab (.cells #[(.pointer (some ⟨db, 0, none⟩)), (.int .i64 fr), (.int .i64 n)] 65 (0, 0))], sg, [Hp.one pb (.cells #[(.bool p.off), (.bool p.armed), (.int .i64 p.left), (.int .i64 p.uses)] 104 (0, 0))], R] := hX4.of_all1
  refine s_op (o_not2 (b := decide (0 ≤ at_ ∧ at_ ≤ 4611686018427387904 ∧ 0 ≤ size ∧ size ≤ n * 64)) (b' := decide (¬ (0 ≤ at_ ∧ at_ ≤ 4611686018427387904 ∧ 0 ≤ size ∧ size ≤ n * 64))) rfl not_dec ?_)
  refine s_nil ?_
  refine t_norm (hK3 _ _ ?_)
  refine c_cond rfl (fun h7 => ?_) (fun h7 => ?_)
  · -- ¬ (0 ≤ at_ ∧ at_ ≤ 4611686018427387904 ∧ 0 ≤ size ∧ size ≤ n * 64)
    exact absurd (show _ ∧ _ ∧ _ ∧ _ from ⟨by omega, by omega, by omega, by omega⟩) h7
  · -- not: ¬ (0 ≤ at_ ∧ at_ ≤ 4611686018427387904 ∧ 0 ≤ size ∧ size ≤ n * 64)
    refine wp_skip ?_
    refine t_norm (hK2 _ _ ?_)
    refine wp_seq_k fun K8 hK8 => ?_
    refine wp_seq_k fun K9 hK9 => ?_
    refine c_region ?_
    refine s_op (o_move (v := (.pointer (some ⟨ab, 0, none⟩))) rfl ?_)
    refine s_op (o_nilCheck rfl ?_)
    refine s_op (o_fieldAddr (k := 0) (fun _ => by kernel_rfl) rfl ?_)
    refine s_op (o_load1 (v := (.pointer (some ⟨db, 0, none⟩))) Tryd.underlying50 rfl rfl hH5 (seg_sub 0 rfl) (CellsAt.one rfl) ?_)
    refine s_op (o_callf (vs := #[(.pointer (some ⟨db, 0, none⟩))]) ca67 rfl (args1 rfl) (don_d (p := p) (la := la) (lo := lo) ((hH5.front 2 rfl).front 2 rfl).all2 hd ) ?_)
    rintro _ w12 ⟨rfl, hX10⟩
    refine ⟨_, rfl, ?_⟩
    have hH11 : Has E w12 [sg, [Hp.one pb (.cells #[(.bool p.off), (.bool p.armed), (.int .i64 p.left), (.int .i64 p.uses)] 104 (0, 0))], [Hp.one ab (.cells #[(.pointer (some ⟨db, 0, none⟩)), (.int .i64 fr), (.int .i64 n)] 65 (0, 0))], R] := hX10.of_all2
    refine s_op (o_not rfl ?_)
    refine s_nil ?_
    refine t_norm (hK9 _ _ ?_)
    refine c_condb rfl (fun h13 => ?_) (fun h13 => ?_)
    · -- !(!p.off)
      have h13_n : (!p.off) = false := by simpa using h13
      have h13_n_n : p.off = true := by simpa using h13_n
      exact absurd h13 (by rw [hp.off]; decide)
    · -- not: !(!p.off)
      have h13_n : (!p.off) = true := by simpa using h13
      have h13_n_n : p.off = false := by simpa using h13_n
      refine wp_skip ?_
      refine t_norm (hK8 _ _ ?_)
      refine wp_seq_k fun K14 hK14 => ?_
      refine c_region ?_
      refine s_op (o_alloc (cs := #[(.pointer none), (.slice none 0 0)]) ti90 rfl hH11 fun b15 w16 hH17 => ?_)
      refine s_nil ?_
      refine t_norm (hK14 _ _ ?_)
      refine wp_seq_k fun K18 hK18 => ?_
      refine wp_seq_k fun K19 hK19 => ?_
      refine c_region ?_
      refine s_op (o_move (v := (.pointer (some ⟨ab, 0, none⟩))) rfl ?_)
      refine s_op (o_move (v := (.int .i64 at_)) rfl ?_)
      refine s_op (o_move (v := (.int .i64 size)) rfl ?_)
      refine s_op (o_callf (vs := #[(.pointer (some ⟨ab, 0, none⟩)), (.int .i64 at_), (.int .i64 size)]) ca69 rfl (args3 rfl rfl rfl) (pieces_c (hH17.front 3 rfl).all1 ⟨by omega, by omega⟩ ⟨by omega, by omega⟩ (at_ := at_) (size := size) ⟨by omega, by omega⟩ ⟨by omega, by omega⟩) ?_)
      rintro _ w25 ⟨v20, s21, rfl, ho22, hX23⟩
      refine ⟨_, rfl, ?_⟩
      have hH24 : Has E w25 [s21, [Hp.one ab (.cells #[(.pointer (some ⟨db, 0, none⟩)), (.int .i64 fr), (.int .i64 n)] 65 (0, 0))], [Hp.one b15 (.cells #[(.pointer none), (.slice none 0 0)] 90 (0, 0))], sg, [Hp.one pb (.cells #[(.bool p.off), (.bool p.armed), (.int .i64 p.left), (.int .i64 p.uses)] 104 (0, 0))], R] := hX23.of_all2
      refine s_op (o_lenS Tryd.underlying113 rfl ho22.sl ?_)
      refine s_op (o_move (v := (.int .i64 0)) rfl ?_)
      refine s_nil ?_
      refine t_norm (hK19 _ _ ?_)
      refine wp_block ?_
      have hpl := pieces_count (fr := fr) (L := n * 64) size.toNat (at_ % (n * 64)) size
      have hpk := pieces_ok (fr := fr) (n := n) (by omega) size.toNat (at_ % (n * 64)) size (Int.emod_nonneg _ (by omega)) (Int.emod_lt_of_pos _ (by omega))
      have hpe : (allP fr (n * 64) (at_ % (n * 64)) size).length ≤ size.toNat := hpl
      let I27 : Nat → (Nat → Value) → World → Prop := fun n__ r__ w__ => ∃ (j : Nat) (sgB : List Hp) (acc : Bs), n__ = (allP fr (n * 64) (at_ % (n * 64)) size).length - j ∧ Has E w__ [sgB, s21, [Hp.one ab (.cells #[(.pointer (some ⟨db, 0, none⟩)), (.int .i64 fr), (.int .i64 n)] 65 (0, 0))], sg, [Hp.one pb (.cells #[(.bool p.off), (.bool p.armed), (.int .i64 p.left), (.int .i64 p.uses)] 104 (0, 0))], R] ∧ (j ≤ (allP fr (n * 64) (at_ % (n * 64)) size).length) ∧ (Bld b15 acc sgB) ∧ (acc.length ≤ j * 64) ∧ (acc = getP la lo ((allP fr (n * 64) (at_ % (n * 64)) size).take j)) ∧ r__ 0 = (.pointer (some ⟨ab, 0, none⟩)) ∧ r__ 1 = (.int .i64 at_) ∧ r__ 2 = (.int .i64 size) ∧ r__ 8 = (.pointer (some ⟨b15, 0, none⟩)) ∧ r__ 17 = (.bool (decide (¬ (0 ≤ at_ ∧ at_ ≤ 4611686018427387904 ∧ 0 ≤ size ∧ size ≤ n * 64)))) ∧ r__ 23 = (.bool (!(!p.off))) ∧ r__ 27 = v20 ∧ r__ 28 = (.int .i64 (((allP fr (n * 64) (at_ % (n * 64)) size).length : Nat) : Int)) ∧ r__ 29 = (.int .i64 (j : Int))
      have hH28 : Has E w25 [[Hp.one b15 (.cells #[(.pointer none), (.slice none 0 0)] 90 (0, 0))], s21, [Hp.one ab (.cells #[(.pointer (some ⟨db, 0, none⟩)), (.int .i64 fr), (.int .i64 n)] 65 (0, 0))], sg, [Hp.one pb (.cells #[(.bool p.off), (.bool p.armed), (.int .i64 p.left), (.int .i64 p.uses)] 104 (0, 0))], R] := Has.pick hH24 [2, 0, 0, 0, 0, 0] (by kernel_rfl)
      refine c_loop I27 _ ⟨0, [Hp.one b15 (.cells #[(.pointer none), (.slice none 0 0)] 90 (0, 0))], ([] : Bs), rfl, hH28, Nat.zero_le _, Bld.new _, (by simp), (by rfl), rfl, rfl, rfl, rfl, rfl, rfl, rfl, rfl, rfl⟩ ?_
      rintro n_ r31 w29 ⟨j, sgB, acc, rfl, hH30, hj, hB, hal, hacc, e26_0, e26_1, e26_2, e26_8, e26_17, e26_23, e26_27, e26_28, e26_29⟩
      refine wp_seq_k fun K32 hK32 => ?_
      refine c_region ?_
      refine s_op (o_lss (a := (j : Int)) (b := (((allP fr (n * 64) (at_ % (n * 64)) size).length : Nat) : Int)) e26_29 e26_28 ?_)
      refine s_nil ?_
      refine t_norm (hK32 _ _ ?_)
      refine wp_seq_k fun K33 hK33 => ?_
      refine c_cond rfl (fun h34 => ?_) (fun h34 => ?_)
      · -- (j : Int) < (((allP fr (n * 64) (at_ % (n * 64)) size).length : Nat) : Int)
        refine wp_skip ?_
        refine t_norm (hK33 _ _ ?_)
        refine wp_seq_k fun K35 hK35 => ?_
        refine wp_block ?_
        refine wp_seq_k fun K36 hK36 => ?_
        refine c_region ?_
        obtain ⟨x40, hx41⟩ : ∃ x_, (allP fr (n * 64) (at_ % (n * 64)) size)[((j : Int)).toNat]? = some x_ := get_some (by omega)
        refine s_op (o_indexF pcC_len Tryd.underlying113 ti116 e26_27 ho22.sl rfl e26_29 (by omega) hx41 fun b37 o38 hc39 => ?_)
        refine s_op (o_loadN (cs := [(.int .i64 x40.sec), (.int .i64 x40.frm), (.int .i64 x40.upto)]) Tryd.underlying116 rfl ti116 rfl hH30 (seg_sub 1 rfl) hc39 ?_)
        refine s_op (o_alloc (cs := #[(.int .i64 0), (.int .i64 0), (.int .i64 0)]) ti116 rfl hH30 fun b42 w43 hH44 => ?_)
        refine s_eff (o_storeN (vs := [(.int .i64 x40.sec), (.int .i64 x40.frm), (.int .i64 x40.upto)]) (c' := #[(.int .i64 x40.sec), (.int .i64 x40.frm), (.int .i64 x40.upto)]) ti116 rfl rfl rfl rfl (by intro u hu; simp only [List.mem_cons, List.not_mem_nil, or_false] at hu; rcases hu with rfl | rfl | rfl <;> first | rfl) (by simp) (by kernel_rfl) (hH44.front 0 rfl) fun w45 hH46 => ?_)
        refine s_nil ?_
        refine t_norm (hK36 _ _ ?_)
        refine wp_seq_k fun K47 hK47 => ?_
        refine Rest.region mixed (by kernel_rfl) ?_
        have hH48 : Has E { w45 with drawn := w45.drawn + 1 } [[Hp.one b42 (.cells #[(.int .i64 x40.sec), (.int .i64 x40.frm), (.int .i64 x40.upto)] 116 (0, 0))], sgB, s21, [Hp.one ab (.cells #[(.pointer (some ⟨db, 0, none⟩)), (.int .i64 fr), (.int .i64 n)] 65 (0, 0))], sg, [Hp.one pb (.cells #[(.bool p.off), (.bool p.armed), (.int .i64 p.left), (.int .i64 p.uses)] 104 (0, 0))], R] := Has0.drew hH46 _
        refine Rest.phaseA (fun w_ => Has E w_ [[Hp.one b42 (.cells #[(.int .i64 x40.sec), (.int .i64 x40.frm), (.int .i64 x40.upto)] 116 (0, 0))], [Hp.one ab (.cells #[(.pointer (some ⟨db, 0, none⟩)), (.int .i64 fr), (.int .i64 n)] 65 (0, 0))]]) 0 6 6 rfl (by decide) (by kernel_rfl) ?_
        refine a_op 0 rfl (by kernel_rfl) (fun w_ h_ => o_move (v := (.pointer (some ⟨ab, 0, none⟩))) e26_0 ⟨rfl, rfl⟩) ?_
        refine a_op 1 rfl (by kernel_rfl) (fun w_ h_ => o_nilCheck rfl ⟨rfl, rfl⟩) ?_
        refine a_op 2 rfl (by kernel_rfl) (fun w_ h_ => o_fieldAddr (k := 0) (fun _ => by kernel_rfl) rfl ⟨rfl, rfl⟩) ?_
        refine a_op 3 rfl (by kernel_rfl) (fun w_ h_ => o_load1 (v := (.pointer (some ⟨db, 0, none⟩))) Tryd.underlying50 rfl rfl h_ (seg_sub 1 rfl) (CellsAt.one rfl) ⟨rfl, rfl⟩) ?_
        refine a_op 4 rfl (by kernel_rfl) (fun w_ h_ => o_fieldAddr (k := 0) (fun _ => by kernel_rfl) rfl ⟨rfl, rfl⟩) ?_
        refine a_op 5 rfl (by kernel_rfl) (fun w_ h_ => o_load1 (v := (.int .i64 x40.sec)) Tryd.underlying3 rfl rfl h_ (seg_sub 0 rfl) (CellsAt.one rfl) ⟨rfl, rfl⟩) ?_
        have hH49 : Has E { w45 with drawn := w45.drawn + 1 } [[Hp.one b42 (.cells #[(.int .i64 x40.sec), (.int .i64 x40.frm), (.int .i64 x40.upto)] 116 (0, 0))], [Hp.one ab (.cells #[(.pointer (some ⟨db, 0, none⟩)), (.int .i64 fr), (.int .i64 n)] 65 (0, 0))]] := ((hH48.front 3 rfl).front 1 rfl).first 2 rfl
        refine a_done (by kernel_rfl) hH49 ?_
        refine r_op 6 rfl (by kernel_rfl) (o_callf (vs := #[(.pointer (some ⟨db, 0, none⟩)), (.int .i64 x40.sec)]) ca34 rfl (args2 rfl rfl) (read_d (p := p) (la := la) (lo := lo) ((hH48.front 5 rfl).front 5 rfl).all2 hd x40.sec) ?_)
        rintro _ w52 ⟨rfl, hX50⟩
        refine ⟨_, rfl, ?_⟩
        have hH51 : Has E w52 [sg, [Hp.one pb (.cells #[(.bool p.off), (.bool p.armed), (.int .i64 p.left), (.int .i64 p.uses)] 104 (0, 0))], [Hp.one b42 (.cells #[(.int .i64 x40.sec), (.int .i64 x40.frm), (.int .i64 x40.upto)] 116 (0, 0))], sgB, s21, [Hp.one ab (.cells #[(.pointer (some ⟨db, 0, none⟩)), (.int .i64 fr), (.int .i64 n)] 65 (0, 0))], R] := hX50.of_all2
        refine r_op 7 rfl (by kernel_rfl) (o_move (v := (.tuple #[(S (readS p la lo x40.sec)), (.int .i64 (readE p la x40.sec))])) rfl ?_)
        refine Rest.phaseA (fun w_ => Has E w_ []) 8 11 3 rfl (by decide) (by kernel_rfl) ?_
        refine a_op 8 rfl (by kernel_rfl) (fun w_ h_ => o_extract (v := (S (readS p la lo x40.sec))) rfl rfl ⟨rfl, rfl⟩) ?_
        refine a_op 9 rfl (by kernel_rfl) (fun w_ h_ => o_extract (v := (.int .i64 (readE p la x40.sec))) rfl rfl ⟨rfl, rfl⟩) ?_
        refine a_op 10 rfl (by kernel_rfl) (fun w_ h_ => o_assign (v := (S (readS p la lo x40.sec))) rfl ⟨rfl, rfl⟩) ?_
        have hH53 : Has E w52 [] := hH51.first 0 rfl
        refine a_done (by kernel_rfl) hH53 ?_
        refine r_op 11 rfl (by kernel_rfl) (o_assign (v := (.int .i64 (readE p la x40.sec))) rfl ?_)
        refine Rest.done (by kernel_rfl) ?_
        refine t_norm (hK47 _ _ ?_)
        refine wp_seq_k fun K54 hK54 => ?_
        refine wp_seq_k fun K55 hK55 => ?_
        refine c_region ?_
        refine s_op (o_move (v := (.int .i64 (readE p la x40.sec))) rfl ?_)
        refine s_op (o_neq (a := readE p la x40.sec) (b := 0) rfl rfl ?_)
        refine s_nil ?_
        refine t_norm (hK55 _ _ ?_)
        refine c_cond rfl (fun h56 => ?_) (fun h56 => ?_)
        · -- readE p la x40.sec ≠ 0
          obtain ⟨hq1, hq2, hq3, hq4, hq5⟩ := hpk x40 (List.mem_of_getElem? hx41)
          have hrd_ := read_now hp (la := la) (lo := lo) (n := x40.sec) ⟨by omega, by omega⟩
          exact absurd hrd_.2 h56
        · -- not: readE p la x40.sec ≠ 0
          obtain ⟨hq1, hq2, hq3, hq4, hq5⟩ := hpk x40 (List.mem_of_getElem? hx41)
          have hrd_ := read_now hp (la := la) (lo := lo) (n := x40.sec) ⟨by omega, by omega⟩
          have hrl_ : (readS p la lo x40.sec).length = 64 := by rw [hrd_.1]; exact nowAt_len h64 hlo (by omega)
          refine wp_skip ?_
          refine t_norm (hK54 _ _ ?_)
          refine c_region ?_
          refine s_op (o_move (v := (S (readS p la lo x40.sec))) rfl ?_)
          refine s_op (o_fieldAddr (k := 1) (fun _ => by kernel_rfl) rfl ?_)
          refine s_op (o_load1 (v := (.int .i64 x40.frm)) Tryd.underlying3 rfl rfl hH51 (seg_sub 2 rfl) (CellsAt.one rfl) ?_)
          refine s_op (o_fieldAddr (k := 2) (fun _ => by kernel_rfl) rfl ?_)
          refine s_op (o_load1 (v := (.int .i64 x40.upto)) Tryd.underlying3 rfl rfl hH51 (seg_sub 2 rfl) (CellsAt.one rfl) ?_)
          refine s_op (o_ssl Tryd.underlying9 rfl rfl rfl (by omega) (by omega) (by omega) ?_)
          refine s_op (o_callf (vs := #[(.pointer (some ⟨b15, 0, none⟩)), (S (((readS p la lo x40.sec).take (x40.upto).toNat).drop (x40.frm).toNat))]) ca52 rfl (args2 e26_8 rfl) (bws (hH51.front 3 rfl).all1 hB (((readS p la lo x40.sec).take (x40.upto).toNat).drop (x40.frm).toNat) (by simp only [List.length_drop, List.length_take]; omega)) ?_)
          rintro _ w61 ⟨sg57, rfl, hB58, hX59⟩
          refine ⟨_, rfl, ?_⟩
          have hH60 : Has E w61 [sg57, sg, [Hp.one pb (.cells #[(.bool p.off), (.bool p.armed), (.int .i64 p.left), (.int .i64 p.uses)] 104 (0, 0))], [Hp.one b42 (.cells #[(.int .i64 x40.sec), (.int .i64 x40.frm), (.int .i64 x40.upto)] 116 (0, 0))], s21, [Hp.one ab (.cells #[(.pointer (some ⟨db, 0, none⟩)), (.int .i64 fr), (.int .i64 n)] 65 (0, 0))], R] := hX59.of_all1
          refine s_nil ?_
          refine b_norm ?_
          refine t_norm (hK35 _ _ ?_)
          refine c_region ?_
          refine s_op (o_add (a := (j : Int)) (b := 1) e26_29 rfl (w64 (by omega) (by omega)) ?_)
          refine s_op (o_move (v := (.int .i64 ((j : Int) + 1))) rfl ?_)
          refine s_nil ?_
          have hH62 : Has E w61 [sg57, s21, [Hp.one ab (.cells #[(.pointer (some ⟨db, 0, none⟩)), (.int .i64 fr), (.int .i64 n)] 65 (0, 0))], sg, [Hp.one pb (.cells #[(.bool p.off), (.bool p.armed), (.int .i64 p.left), (.int .i64 p.uses)] 104 (0, 0))], R] := Has.pick hH60 [0, 3, 3, 0, 0, 1] (by kernel_rfl)
          refine t_norm ⟨(allP fr (n * 64) (at_ % (n * 64)) size).length - (j + 1), _, rfl, ?_, ?_⟩
          · omega
          · exact ⟨(j + 1), sg57, (acc ++ (((readS p la lo x40.sec).take (x40.upto).toNat).drop (x40.frm).toNat)), rfl, hH62, (by omega), (hB58), (by simp only [List.length_append, List.length_drop, List.length_take]; omega), (by rw [take_succ_of (show (allP fr (n * 64) (at_ % (n * 64)) size)[j]? = some _ from hx41), getP_snoc, ← hacc, hrd_.1]; rfl), e26_0, e26_1, e26_2, e26_8, e26_17, e26_23, e26_27, e26_28, rfl⟩
      · -- not: (j : Int) < (((allP fr (n * 64) (at_ % (n * 64)) size).length : Nat) : Int)
        refine wp_exit ?_
        refine t_exit (t_exit (x_in (?_)))
        refine t_norm (hK18 _ _ ?_)
        refine wp_seq_k fun K63 hK63 => ?_
        refine c_region ?_
        refine s_op (o_callf (vs := #[(.pointer (some ⟨b15, 0, none⟩))]) ca56 rfl (args1 e26_8) (bstr hH30.all1 hB) ?_)
        rintro _ w66 ⟨rfl, hX64⟩
        refine ⟨_, rfl, ?_⟩
        have hH65 : Has E w66 [s21, [Hp.one ab (.cells #[(.pointer (some ⟨db, 0, none⟩)), (.int .i64 fr), (.int .i64 n)] 65 (0, 0))], sg, [Hp.one pb (.cells #[(.bool p.off), (.bool p.armed), (.int .i64 p.left), (.int .i64 p.uses)] 104 (0, 0))], R] := hX64.of_all
        refine s_op (o_assign (v := (S acc)) rfl ?_)
        refine s_op (o_assign (v := (.int .i64 0)) rfl ?_)
        refine s_nil ?_
        refine t_norm (hK63 _ _ ?_)
        refine wp_ret ?_
        refine c_ret2 Tryd.results32  (v := (S acc)) rfl (x := (.int .i64 0)) rfl ?_
        have hH67 : Has E w66 [sg, [Hp.one pb (.cells #[(.bool p.off), (.bool p.armed), (.int .i64 p.left), (.int .i64 p.uses)] 104 (0, 0))], [Hp.one ab (.cells #[(.pointer (some ⟨db, 0, none⟩)), (.int .i64 fr), (.int .i64 n)] 65 (0, 0))], R] := ((((hH65.front 4 rfl).front 2 rfl).front 4 rfl).front 4 rfl).first 4 rfl
        have e_ : j = (allP fr (n * 64) (at_ % (n * 64)) size).length := by omega
        rw [e_, List.take_of_length_le (Nat.le_refl _)] at hacc
        exact ⟨by rw [← hacc], hH67⟩
end Go.Q
namespace Go.Q
section
variable {H : Type} {enc : TypeId × Value → H} {P : Program} {w : World} {t e : TypeId} {cs : List Value}
/-- These cells read as a value of the type. -/
def Rd (enc : TypeId × Value → H) (P : Program) (w : World) (t : TypeId) (cs : List Value) : Prop := ∃ fuel x, DataW.trod enc P w 0 (fun _ => true) true fuel t cs = some x
theorem rd_of {v : Value} {d : DataW H} {ps : List MemPlace} (h : DataW.Trod enc P w 0 (fun _ => true) true t v d ps) : Rd enc P w t v.cells.toList := ⟨h.choose, _, h.choose_spec⟩
theorem rd_int {k : IntKind} (ht : P.underlying t = some (.int k)) (h : Rd enc P w t cs) : ∃ n, cs = [.int k n] ∧ (Lit.int k n).wf = true := by
  obtain ⟨f, x, h⟩ := h
  obtain ⟨n, h1, _, h2⟩ := DataW.trod_int ht h
  exact ⟨n, h1, h2⟩
theorem rd_i64 (ht : P.underlying t = some (.int .i64)) (h : Rd enc P w t cs) : ∃ n, cs = [iV n] ∧ (-9223372036854775808 : Int) ≤ n ∧ n ≤ 9223372036854775807 := by
  obtain ⟨n, h1, h2⟩ := rd_int ht h
  exact ⟨n, h1, wf_i64 h2⟩
theorem rd_string (ht : P.underlying t = some .string) (h : Rd enc P w t cs) : ∃ l : List UInt8, cs = [S l] ∧ l.length ≤ 9223372036854775807 := by
  obtain ⟨f, x, h⟩ := h
  obtain ⟨s, h1, _, h2⟩ := DataW.trod_string ht h
  exact ⟨s.data.toList, by rw [h1, S_of], by rw [show maxLen = 9223372036854775807 from rfl] at h2; exact h2⟩
theorem rd_bool (ht : P.underlying t = some .bool) (h : Rd enc P w t cs) : ∃ b, cs = [.bool b] := by
  obtain ⟨f, x, h⟩ := h
  cases f with
  | zero => simp [DataW.trod] at h
  | succ m =>
    unfold DataW.trod at h
    rw [ht] at h
    split at h <;> simp_all
theorem rd_struct {fs : Array Field} (ht : P.underlying t = some (.struct fs)) (h : Rd enc P w t cs) :
    cs.length = P.cellsOf t ∧ ∀ (i : Nat) (f : Field), fs[i]? = some f → Rd enc P w f.type ((cs.drop f.offset).take (P.cellsOf f.type)) := by
  obtain ⟨f, x, h⟩ := h
  obtain ⟨xs, n, _, _, h1, h2, h3⟩ := DataW.trod_struct ht h
  refine ⟨h1, fun i f hf => ?_⟩
  have hi : i < xs.length := by rw [h2]; exact (Array.getElem?_eq_some_iff.1 hf).1
  exact ⟨n, xs[i], by rw [h3 i f hf, List.getElem?_eq_getElem hi]⟩
theorem rd_field {fs : Array Field} {i k : Nat} {f : Field} {T : TypeId} {ds : List Value} (hf : ∀ (i : Nat) (f : Field), fs[i]? = some f → Rd enc P w f.type ((cs.drop f.offset).take (P.cellsOf f.type)))
    (h : fs[i]? = some f) (hT : f.type = T) (hc : P.cellsOf T = k) (hd : (cs.drop f.offset).take k = ds) : Rd enc P w T ds := by
  have g := hf i f h
  rw [hT, hc, hd] at g
  exact g
theorem rd_slice (ht : P.underlying t = some (.slice e)) (h : Rd enc P w t cs) :
    cs = [.slice none 0 0] ∨ ∃ a len cap, cs = [.slice (some a) len cap] ∧ len ≤ cap ∧ cap ≤ 9223372036854775807 ∧
      ∀ i, i < len → ∃ r : List Value, r.length = P.cellsOf e ∧ Rd enc P w e r ∧ ∀ j, j < P.cellsOf e → w.cell? (a.add (i * P.cellsOf e + j)) = r[j]? := by
  obtain ⟨f, x, h⟩ := h
  rcases DataW.trod_slice ht h with ⟨h, _⟩ | ⟨a, len, cap, elems, rest, n, _, h1, _, _, h2, h3, h4, h5, _⟩
  · exact .inl h
  · refine .inr ⟨a, len, cap, h1, h2, by simpa [maxLen] using h3, fun i hi => ?_⟩
    have hb := h5 i hi
    rw [List.getElem?_eq_getElem (by omega)] at hb
    obtain ⟨r, hr, hd⟩ := Option.bind_eq_some_iff.1 hb
    obtain ⟨_, g1, g2⟩ := World.cells?_some hr
    refine ⟨r, g1, ⟨n, _, hd⟩, fun j hj => ?_⟩
    rw [← g2 j hj, Addr.add_add]
/-- A row, by how its elements read. -/
theorem rd_rows {α : Type} {f : α → List Value} {Good : α → Prop} {sz : Nat} (ht : P.underlying t = some (.slice e)) (hc : P.cellsOf e = sz) (h0 : 0 < sz) (hf : ∀ a, (f a).length = sz)
    (each : ∀ r, Rd enc P w e r → ∃ a, r = f a ∧ Good a) (h : Rd enc P w t cs) : ∃ (v : Value) (l : List α), cs = [v] ∧ Sl [Hp.of w] sz v l.length (l.flatMap f) ∧ ∀ a ∈ l, Good a := by
  subst hc
  rcases rd_slice ht h with rfl | ⟨a, len, cap, rfl, h1, h2, h3⟩
  · exact ⟨_, [], rfl, ⟨none, 0, rfl, Nat.le_refl _, by omega, by simp, fun g => by simp at g⟩, fun a ha => by cases ha⟩
  · have key : ∀ k, k ≤ len → ∃ l : List α, l.length = k ∧ (∀ a ∈ l, Good a) ∧ ∀ i v, (l.flatMap f)[i]? = some v → w.cell? (a.add i) = some v := by
      intro k
      induction k with
      | zero => intro _; exact ⟨[], rfl, fun a ha => (by cases ha), fun i v hv => by simp at hv⟩
      | succ k ih =>
        intro hk
        obtain ⟨l, hl, hg, hcell⟩ := ih (by omega)
        obtain ⟨r, hr, hd, hrc⟩ := h3 k (by omega)
        obtain ⟨y, rfl, hy⟩ := each r hd
        refine ⟨l ++ [y], by simp [hl], fun a ha => ?_, fun i v hv => ?_⟩
        · rcases List.mem_append.1 ha with g | g
          · exact hg a g
          · rw [List.mem_singleton.1 g]; exact hy
        · rw [List.flatMap_append, List.flatMap_cons, List.flatMap_nil, List.append_nil] at hv
          have hlen := flat_len hf l
          rcases Nat.lt_or_ge i (l.flatMap f).length with g | g
          · rw [List.getElem?_append_left g] at hv; exact hcell i v hv
          · rw [List.getElem?_append_right g] at hv
            have hj : i - (l.flatMap f).length < P.cellsOf e := by rw [← hr]; exact (List.getElem?_eq_some_iff.1 hv).1
            have := hrc (i - (l.flatMap f).length) hj
            rw [hv] at this
            rw [← this]; congr 2
            rw [hlen, hl] at g hj ⊢; omega
    obtain ⟨l, hl, hg, hcell⟩ := key len (Nat.le_refl _)
    refine ⟨_, l, rfl, ⟨some a, cap, by rw [hl], by omega, h2, flat_len hf l, fun g => ?_⟩, hg⟩
    obtain ⟨b, off, rfl, hc⟩ := cells_row (w := w) (x := a) (vs := l.flatMap f) (by rw [flat_len hf l]; exact Nat.mul_pos g h0) hcell
    exact ⟨b, off, rfl, hc⟩
theorem flat_one {α : Type} (f : α → Value) : ∀ l : List α, l.flatMap (fun a => [f a]) = l.map f
  | [] => rfl
  | a :: l => by rw [List.flatMap_cons, flat_one f l]; rfl
theorem rd_row1 {α : Type} {f : α → Value} {Good : α → Prop} (ht : P.underlying t = some (.slice e)) (hc : P.cellsOf e = 1)
    (each : ∀ r, Rd enc P w e r → ∃ a, r = [f a] ∧ Good a) (h : Rd enc P w t cs) : ∃ (v : Value) (l : List α), cs = [v] ∧ Sl [Hp.of w] 1 v l.length (l.map f) ∧ ∀ a ∈ l, Good a := by
  obtain ⟨v, l, h1, h2, h3⟩ := rd_rows (f := fun a => [f a]) ht hc (by omega) (fun _ => rfl) each h
  exact ⟨v, l, h1, by rw [flat_one] at h2; exact h2, h3⟩
/-- bounds of an int -/
def I64 (n : Int) : Prop := -9223372036854775808 ≤ n ∧ n ≤ 9223372036854775807
theorem rd_ints (ht : P.underlying t = some (.slice e)) (he : P.underlying e = some (.int .i64)) (hc : P.cellsOf e = 1) (h : Rd enc P w t cs) : ∃ (v : Value) (l : List Int), cs = [v] ∧ Ints [Hp.of w] v l ∧ ∀ a ∈ l, I64 a :=
  rd_row1 ht hc (fun r hr => rd_i64 he hr) h
theorem rd_strings (ht : P.underlying t = some (.slice e)) (he : P.underlying e = some .string) (hc : P.cellsOf e = 1) (h : Rd enc P w t cs) : ∃ (v : Value) (l : List (List UInt8)), cs = [v] ∧ Sl [Hp.of w] 1 v l.length (l.map S) ∧ ∀ a ∈ l, a.length ≤ 9223372036854775807 :=
  rd_row1 ht hc (fun r hr => rd_string he hr) h
/-- a value of a type of one cell is its cell -/
theorem val_one {r : Reach} {b0 : Nat} {v u : Value} (hn : match P.underlying t with | some (.struct _) => False | some (.array _ _) => False | _ => True) (hval : Value.okWide P w r b0 t v) (h : v.cells.toList = [u]) : v = u := by
  cases v with
  | agg c =>
    unfold Value.okWide at hval
    cases hu : P.underlying t with
    | none => rw [hu] at hval; simp [Cell.okWide, Cell.ok, hu] at hval
    | some d => rw [hu] at hn hval; cases d <;> first | exact hn.elim | (simp [Cell.okWide, Cell.ok, hu] at hval)
  | _ => simpa [Value.cells] using h
end
end Go.Q
namespace Go.Q
section
variable {H : Type} {enc : TypeId × Value → H} {P : Program} {w : World} {t e : TypeId} {cs : List Value}
/-- These cells read as a value of the type, and each text and row in it is within the reach. -/
def RdS (enc : TypeId × Value → H) (P : Program) (w : World) (t : TypeId) (cs : List Value) : Prop := ∃ fuel x, DataW.trod enc P w 0 (fun _ => true) true fuel t cs = some x ∧ ∀ n ∈ DataW.weights P t x.1, n ≤ reachBytes
theorem RdS.rd (h : RdS enc P w t cs) : Rd enc P w t cs := let ⟨f, x, h, _⟩ := h; ⟨f, x, h⟩
theorem rds_of {v : Value} {d : DataW H} {ps : List MemPlace} (h : DataW.Trod enc P w 0 (fun _ => true) true t v d ps) {ts : List TypeId} {ds : List (DataW H)} (hs : (DataW.weightsEach P ts ds).all (· ≤ reachBytes) = true) {j : Nat} (ht : ts[j]? = some t) (hd : ds[j]? = some d) : RdS enc P w t v.cells.toList :=
  ⟨h.choose, _, h.choose_spec, fun n hn => by simpa using List.all_eq_true.1 hs n (DataW.weights_mem_each ht hd n hn)⟩
theorem rds_string (ht : P.underlying t = some .string) (h : RdS enc P w t cs) : ∃ l : List UInt8, cs = [S l] ∧ l.length ≤ 140737488355328 := by
  obtain ⟨f, x, h, hw⟩ := h
  obtain ⟨s, h1, hx, _⟩ := DataW.trod_string ht h
  refine ⟨s.data.toList, by rw [h1, S_of], ?_⟩
  have := hw s.data.toList.length (by rw [hx]; simp [DataW.weights])
  have := reachBytes_lt
  omega
theorem mem_all {H : Type} {P : Program} {t : TypeId} : ∀ {ds : List (DataW H)} {d : DataW H}, d ∈ ds → ∀ n ∈ DataW.weights P t d, n ∈ DataW.weightsAll P t ds
  | d0 :: ds, d, h, n, hn => by
    simp only [DataW.weightsAll, List.mem_append]
    rcases List.mem_cons.1 h with rfl | h
    · exact .inl hn
    · exact .inr (mem_all h n hn)
theorem rds_struct {fs : Array Field} (ht : P.underlying t = some (.struct fs)) (h : RdS enc P w t cs) :
    cs.length = P.cellsOf t ∧ ∀ (i : Nat) (f : Field), fs[i]? = some f → RdS enc P w f.type ((cs.drop f.offset).take (P.cellsOf f.type)) := by
  obtain ⟨f, x, h, hw⟩ := h
  obtain ⟨xs, n, _, hx, h1, h2, h3⟩ := DataW.trod_struct ht h
  refine ⟨h1, fun i f hf => ?_⟩
  have hi : i < xs.length := by rw [h2]; exact (Array.getElem?_eq_some_iff.1 hf).1
  refine ⟨n, xs[i], by rw [h3 i f hf, List.getElem?_eq_getElem hi], fun m hm => hw m ?_⟩
  rw [hx]
  simp only [DataW.weights, ht]
  refine DataW.weights_mem_each (j := i) (t := f.type) (d := xs[i].1) ?_ ?_ m hm
  · rw [List.getElem?_map]; simpa using congrArg (Option.map (·.type)) hf
  · rw [List.getElem?_map, List.getElem?_eq_getElem hi]; rfl
theorem rds_field {fs : Array Field} {i k : Nat} {f : Field} {T : TypeId} {ds : List Value} (hf : ∀ (i : Nat) (f : Field), fs[i]? = some f → RdS enc P w f.type ((cs.drop f.offset).take (P.cellsOf f.type)))
    (h : fs[i]? = some f) (hT : f.type = T) (hc : P.cellsOf T = k) (hd : (cs.drop f.offset).take k = ds) : RdS enc P w T ds := by
  have g := hf i f h
  rw [hT, hc, hd] at g
  exact g
theorem rds_slice (ht : P.underlying t = some (.slice e)) (h : RdS enc P w t cs) :
    cs = [.slice none 0 0] ∨ ∃ a len cap, cs = [.slice (some a) len cap] ∧ len ≤ cap ∧ cap ≤ 9223372036854775807 ∧ len * P.bytesOf e ≤ 140737488355328 ∧
      ∀ i, i < len → ∃ r : List Value, r.length = P.cellsOf e ∧ RdS enc P w e r ∧ ∀ j, j < P.cellsOf e → w.cell? (a.add (i * P.cellsOf e + j)) = r[j]? := by
  obtain ⟨f, x, h, hw⟩ := h
  rcases DataW.trod_slice ht h with ⟨h, _⟩ | ⟨a, len, cap, elems, rest, n, _, h1, hx, _, h2, h3, h4, h5, _⟩
  · exact .inl h
  · refine .inr ⟨a, len, cap, h1, h2, by simpa [maxLen] using h3, ?_, fun i hi => ?_⟩
    · have h9 := hw (((elems.map (·.1)).length + (rest.map (·.1)).length) * P.bytesOf e) (by rw [hx]; simp [DataW.weights, ht])
      have h8 : len * P.bytesOf e ≤ ((elems.map (·.1)).length + (rest.map (·.1)).length) * P.bytesOf e := Nat.mul_le_mul_right _ (by rw [List.length_map]; omega)
      have := reachBytes_lt
      omega
    · have hb := h5 i hi
      rw [List.getElem?_eq_getElem (by omega)] at hb
      obtain ⟨r, hr, hd⟩ := Option.bind_eq_some_iff.1 hb
      obtain ⟨_, g1, g2⟩ := World.cells?_some hr
      refine ⟨r, g1, ⟨n, _, hd, fun m hm => hw m ?_⟩, fun j hj => ?_⟩
      · rw [hx]
        simp only [DataW.weights, ht]
        refine List.mem_cons_of_mem _ (List.mem_append_left _ (mem_all (d := (elems[i]'(by omega)).1) ?_ m hm))
        exact List.mem_map.2 ⟨_, List.getElem_mem _, rfl⟩
      · rw [← g2 j hj, Addr.add_add]
theorem rds_rows {α : Type} {f : α → List Value} {Good : α → Prop} {sz : Nat} (ht : P.underlying t = some (.slice e)) (hc : P.cellsOf e = sz) (h0 : 0 < sz) (hf : ∀ a, (f a).length = sz)
    (each : ∀ r, RdS enc P w e r → ∃ a, r = f a ∧ Good a) (h : RdS enc P w t cs) : ∃ (v : Value) (l : List α), cs = [v] ∧ Sl [Hp.of w] sz v l.length (l.flatMap f) ∧ (∀ a ∈ l, Good a) ∧ l.length * P.bytesOf e ≤ 140737488355328 := by
  subst hc
  rcases rds_slice ht h with rfl | ⟨a, len, cap, rfl, h1, h2, hby, h3⟩
  · exact ⟨_, [], rfl, ⟨none, 0, rfl, Nat.le_refl _, by omega, by simp, fun g => by simp at g⟩, fun a ha => (by cases ha), by simp⟩
  · have key : ∀ k, k ≤ len → ∃ l : List α, l.length = k ∧ (∀ a ∈ l, Good a) ∧ ∀ i v, (l.flatMap f)[i]? = some v → w.cell? (a.add i) = some v := by
      intro k
      induction k with
      | zero => intro _; exact ⟨[], rfl, fun a ha => (by cases ha), fun i v hv => by simp at hv⟩
      | succ k ih =>
        intro hk
        obtain ⟨l, hl, hg, hcell⟩ := ih (by omega)
        obtain ⟨r, hr, hd, hrc⟩ := h3 k (by omega)
        obtain ⟨y, rfl, hy⟩ := each r hd
        refine ⟨l ++ [y], by simp [hl], fun a ha => ?_, fun i v hv => ?_⟩
        · rcases List.mem_append.1 ha with g | g
          · exact hg a g
          · rw [List.mem_singleton.1 g]; exact hy
        · rw [List.flatMap_append, List.flatMap_cons, List.flatMap_nil, List.append_nil] at hv
          have hlen := flat_len hf l
          rcases Nat.lt_or_ge i (l.flatMap f).length with g | g
          · rw [List.getElem?_append_left g] at hv; exact hcell i v hv
          · rw [List.getElem?_append_right g] at hv
            have hj : i - (l.flatMap f).length < P.cellsOf e := by rw [← hr]; exact (List.getElem?_eq_some_iff.1 hv).1
            have := hrc (i - (l.flatMap f).length) hj
            rw [hv] at this
            rw [← this]; congr 2
            rw [hlen, hl] at g hj ⊢; omega
    obtain ⟨l, hl, hg, hcell⟩ := key len (Nat.le_refl _)
    refine ⟨_, l, rfl, ⟨some a, cap, by rw [hl], by omega, h2, flat_len hf l, fun g => ?_⟩, hg, by rw [hl]; exact hby⟩
    obtain ⟨b, off, rfl, hc⟩ := cells_row (w := w) (x := a) (vs := l.flatMap f) (by rw [flat_len hf l]; exact Nat.mul_pos g h0) hcell
    exact ⟨b, off, rfl, hc⟩
theorem rds_row1 {α : Type} {f : α → Value} {Good : α → Prop} (ht : P.underlying t = some (.slice e)) (hc : P.cellsOf e = 1)
    (each : ∀ r, RdS enc P w e r → ∃ a, r = [f a] ∧ Good a) (h : RdS enc P w t cs) : ∃ (v : Value) (l : List α), cs = [v] ∧ Sl [Hp.of w] 1 v l.length (l.map f) ∧ (∀ a ∈ l, Good a) ∧ l.length * P.bytesOf e ≤ 140737488355328 := by
  obtain ⟨v, l, h1, h2, h3⟩ := rds_rows (f := fun a => [f a]) ht hc (by omega) (fun _ => rfl) each h
  exact ⟨v, l, h1, by rw [flat_one] at h2; exact h2, h3⟩
theorem rds_strings (ht : P.underlying t = some (.slice e)) (he : P.underlying e = some .string) (hc : P.cellsOf e = 1) (h : RdS enc P w t cs) : ∃ (v : Value) (l : List (List UInt8)), cs = [v] ∧ Sl [Hp.of w] 1 v l.length (l.map sV) ∧ (∀ a ∈ l, a.length ≤ 140737488355328) ∧ l.length * P.bytesOf e ≤ 140737488355328 :=
  rds_row1 (f := sV) ht hc (fun r hr => rds_string he hr) h
end
end Go.Q
namespace Go.Q
structure DAct where
  kind : Int
  n : Int
  other : Bool
  dv : Value
  data : List Bs
  kv : Value
  keep : List Int
def daC (a : DAct) : List Value := [iV a.kind, iV a.n, .bool a.other, a.dv, a.kv]
theorem daC_len (a : DAct) : (daC a).length = 5 := rfl
/-- An act whose rows read. -/
def DaOk (R : List Hp) (a : DAct) : Prop := Sl R 1 a.dv a.data.length (a.data.map sV) ∧ Ints R a.kv a.keep ∧ (∀ t ∈ a.data, t.length ≤ 140737488355328) ∧ -9223372036854775808 ≤ a.n ∧ a.n ≤ 9223372036854775807
theorem DaOk.mono {R R' : List Hp} {a : DAct} (h : DaOk R a) (hs : R ⊆ R') : DaOk R' a := ⟨h.1.mono hs, h.2.1.mono hs, h.2.2⟩
/-- An act that is not too great. -/
def DFin (a : DAct) : Prop := a.data.length ≤ 6 ∧ a.data.flatten.length ≤ 200 ∧ a.keep.length ≤ 40
def DFine (l : List DAct) : Prop := l.length ≤ 60 ∧ ∀ a ∈ l, DFin a
theorem DFine.snoc {l : List DAct} {k : Nat} {x : DAct} (h : ∀ a ∈ l.take k, DFin a) (hx : l[k]? = some x) (hf : DFin x) : ∀ a ∈ l.take (k + 1), DFin a := by
  rw [List.take_add_one, hx]
  intro y hy
  rcases List.mem_append.1 hy with g | g
  · exact h y g
  · simp at g; rw [g]; exact hf
theorem flatten_take_succ {l : List Bs} {k : Nat} {x : Bs} (hx : l[k]? = some x) : (l.take (k + 1)).flatten = (l.take k).flatten ++ x := by
  rw [List.take_add_one, hx]; simp
theorem flatten_le {l : List Bs} {B : Nat} (h : ∀ t ∈ l, t.length ≤ B) : l.flatten.length ≤ l.length * B := by
  induction l with
  | nil => simp
  | cons a l ih =>
    have := ih fun t ht => h t (List.mem_cons_of_mem _ ht)
    have := h a List.mem_cons_self
    simp only [List.flatten_cons, List.length_append, List.length_cons, Nat.add_mul, Nat.one_mul]; omega
end Go.Q
namespace Go.Q
open Go.Proofs
set_option linter.unusedVariables false
set_option maxRecDepth 100000
attribute [local irreducible] wpList OK Code.wp
set_option maxHeartbeats 4000000 in
theorem sum_c {E w : World} {R : List Hp} (hH : Has E w [R]) {v : Value} {l : List Int} (hv : Ints R v l) :
    Calls Tryd.prog 65 #[v] w fun e w' => e = .returned (.int .i64 (sumS 0 l)) ∧ Has E w' [R] := by
  have hn := hv.le
  refine c_enter (args := [v]) Tryd.func65 rfl Tryd.ntmps65 (by simp) ?_
  refine wp_seq_k fun K1 hK1 => ?_
  refine c_region ?_
  refine s_op (o_assign (v := (.int .i64 0)) rfl ?_)
  refine s_nil ?_
  refine t_norm (hK1 _ _ ?_)
  refine wp_seq_k fun K2 hK2 => ?_
  refine c_region ?_
  refine s_op (o_assign (v := (.int .i64 0)) rfl ?_)
  refine s_nil ?_
  refine t_norm (hK2 _ _ ?_)
  refine wp_seq_k fun K3 hK3 => ?_
  refine wp_seq_k fun K4 hK4 => ?_
  refine c_region ?_
  refine s_op (o_move (v := v) rfl ?_)
  refine s_op (o_lenS Tryd.underlying56 rfl hv ?_)
  refine s_op (o_move (v := (.int .i64 0)) rfl ?_)
  refine s_nil ?_
  refine t_norm (hK4 _ _ ?_)
  refine wp_block ?_
  let I6 : Nat → (Nat → Value) → World → Prop := fun n__ r__ w__ => ∃ (k : Nat) (y : Int), n__ = l.length - k ∧ Has E w__ [R] ∧ (k ≤ l.length) ∧ (sumS 0 l = sumS y (l.drop k)) ∧ (0 ≤ y ∧ y ≤ 9223372036854775807) ∧ r__ 0 = v ∧ r__ 3 = (.int .i64 y) ∧ r__ 6 = v ∧ r__ 7 = (.int .i64 ((l.length : Nat) : Int)) ∧ r__ 8 = (.int .i64 (k : Int))
  refine c_loop I6 _ ⟨0, 0, rfl, hH, Nat.zero_le _, rfl, (by omega), rfl, rfl, rfl, rfl, rfl⟩ ?_
  rintro n_ r9 w7 ⟨k, y, rfl, hH8, hk, hy, hb, e5_0, e5_3, e5_6, e5_7, e5_8⟩
  refine wp_seq_k fun K10 hK10 => ?_
  refine c_region ?_
  refine s_op (o_lss (a := (k : Int)) (b := ((l.length : Nat) : Int)) e5_8 e5_7 ?_)
  refine s_nil ?_
  refine t_norm (hK10 _ _ ?_)
  refine wp_seq_k fun K11 hK11 => ?_
  refine c_cond rfl (fun h12 => ?_) (fun h12 => ?_)
  · -- (k : Int) < ((l.length : Nat) : Int)
    refine wp_skip ?_
    refine t_norm (hK11 _ _ ?_)
    refine wp_seq_k fun K13 hK13 => ?_
    refine wp_block ?_
    refine wp_seq_k fun K14 hK14 => ?_
    refine c_region ?_
    obtain ⟨x18, hx19⟩ : ∃ x_, l[((k : Int)).toNat]? = some x_ := get_some (by omega)
    refine s_op (o_index1 Tryd.underlying56 ti3 e5_6 hv e5_8 (by omega) hx19 fun b15 o16 hc17 => ?_)
    refine s_op (o_load1 (v := (.int .i64 x18)) Tryd.underlying3 rfl rfl hH8 (seg_sub 0 rfl) hc17 ?_)
    refine s_op (o_assign (v := (.int .i64 x18)) rfl ?_)
    refine s_nil ?_
    refine t_norm (hK14 _ _ ?_)
    refine wp_seq_k fun K20 hK20 => ?_
    refine wp_seq_k fun K21 hK21 => ?_
    refine c_region ?_
    refine s_op (o_move (v := (.int .i64 x18)) rfl ?_)
    refine s_op (o_move (v := (.int .i64 y)) e5_3 ?_)
    refine s_op (o_sub (a := 9223372036854775807) (b := y) rfl rfl (w64 (by omega) (by omega)) ?_)
    refine s_op (o_gtr (a := x18) (b := 9223372036854775807 - y) rfl rfl ?_)
    refine s_nil ?_
    refine t_norm (hK21 _ _ ?_)
    refine c_cond rfl (fun h22 => ?_) (fun h22 => ?_)
    · -- 9223372036854775807 - y < x18
      refine wp_seq_k fun K23 hK23 => ?_
      refine c_region ?_
      refine s_op (o_assign (v := (.int .i64 9223372036854775807)) rfl ?_)
      refine s_nil ?_
      refine t_norm (hK23 _ _ ?_)
      refine wp_ret ?_
      refine t_ret (b_ret (t_ret (t_ret (b_ret (t_ret (c_ret1 Tryd.results65  (v := (.int .i64 9223372036854775807)) rfl ?_))))))
      exact ⟨by rw [hy, drop_of (by simpa using hx19), sumS, if_pos (by omega)], hH8⟩
    · -- not: 9223372036854775807 - y < x18
      refine wp_skip ?_
      refine t_norm (hK20 _ _ ?_)
      refine c_region ?_
      refine s_op (o_move (v := (.int .i64 y)) e5_3 ?_)
      refine s_op (o_move (v := (.int .i64 x18)) rfl ?_)
      refine s_op (o_max (a := x18) (b := 0) rfl rfl ?_)
      refine s_op (o_add (a := y) (b := max x18 0) rfl rfl (w64 (by omega) (by omega)) ?_)
      refine s_op (o_assign (v := (.int .i64 (y + (max x18 0)))) rfl ?_)
      refine s_nil ?_
      refine b_norm ?_
      refine t_norm (hK13 _ _ ?_)
      refine c_region ?_
      refine s_op (o_add (a := (k : Int)) (b := 1) e5_8 rfl (w64 (by omega) (by omega)) ?_)
      refine s_op (o_move (v := (.int .i64 ((k : Int) + 1))) rfl ?_)
      refine s_nil ?_
      refine t_norm ⟨l.length - (k + 1), _, rfl, ?_, ?_⟩
      · omega
      · exact ⟨(k + 1), (y + (max x18 0)), rfl, hH8, (by omega), (by rw [hy, drop_of (by simpa using hx19), sumS, if_neg (by omega)]), (by omega), e5_0, rfl, e5_6, e5_7, rfl⟩
  · -- not: (k : Int) < ((l.length : Nat) : Int)
    refine wp_exit ?_
    refine t_exit (t_exit (x_in (?_)))
    refine t_norm (hK3 _ _ ?_)
    refine wp_seq_k fun K24 hK24 => ?_
    refine c_region ?_
    refine s_op (o_move (v := (.int .i64 y)) e5_3 ?_)
    refine s_op (o_assign (v := (.int .i64 y)) rfl ?_)
    refine s_nil ?_
    refine t_norm (hK24 _ _ ?_)
    refine wp_ret ?_
    refine c_ret1 Tryd.results65  (v := (.int .i64 y)) rfl ?_
    exact ⟨by rw [hy, List.drop_of_length_le (by omega)]; rfl, hH8⟩
set_option maxHeartbeats 4000000 in
theorem fits_c {E w : World} {R : List Hp} (hH : Has E w [R]) (n : Int) (m : Nat) (hm : m ≤ 8) :
    Calls Tryd.prog 87 #[(.int .i64 n), (.int .i64 (m : Int))] w fun e w' => e = .returned (.bool (fitsS n m)) ∧ Has E w' [R] := by
  refine c_enter (args := [(.int .i64 n), (.int .i64 (m : Int))]) Tryd.func87 rfl Tryd.ntmps87 (by simp) ?_
  refine wp_seq_k fun K1 hK1 => ?_
  refine c_region ?_
  refine s_op (o_assign (v := (.bool false)) rfl ?_)
  refine s_nil ?_
  refine t_norm (hK1 _ _ ?_)
  refine wp_seq_k fun K2 hK2 => ?_
  refine c_region ?_
  refine s_op (o_move (v := (.int .i64 n)) rfl ?_)
  refine s_op (o_geq (a := n) (b := 0) rfl rfl ?_)
  refine s_op (o_move (v := (.bool (decide (0 ≤ n)))) rfl ?_)
  by_cases h3 : 0 ≤ n
  · -- 0 ≤ n
    refine s_on 7 rfl (congrArg Value.bool (decide_eq_true h3)) (o_move (v := (.int .i64 (m : Int))) rfl ?_)
    refine s_on 7 rfl (congrArg Value.bool (decide_eq_true h3)) (o_eql (a := (m : Int)) (b := 8) rfl rfl ?_)
    refine s_on 7 rfl (congrArg Value.bool (decide_eq_true h3)) (o_move (v := (.bool (decide ((m : Int) = 8)))) rfl ?_)
    by_cases h4 : (m : Int) = 8
    · -- (m : Int) = 8
      refine s_off (b' := true) 10 rfl (congrArg Value.bool (decide_eq_true h4)) rfl ?_
      refine s_off (b' := true) 10 rfl (congrArg Value.bool (decide_eq_true h4)) rfl ?_
      refine s_off (b' := true) 10 rfl (congrArg Value.bool (decide_eq_true h4)) rfl ?_
      refine s_off (b' := true) 10 rfl (congrArg Value.bool (decide_eq_true h4)) rfl ?_
      refine s_off (b' := true) 10 rfl (congrArg Value.bool (decide_eq_true h4)) rfl ?_
      refine s_on 7 rfl (congrArg Value.bool (decide_eq_true h3)) (o_pick_t (u := (.bool true)) ((rfl : _ = _).trans (congrArg Value.bool (decide_eq_true h4))) rfl ?_)
      refine s_op (o_pick_t (u := (.bool true)) ((rfl : _ = _).trans (congrArg Value.bool (decide_eq_true h3))) rfl ?_)
      refine s_op (o_assign (v := (.bool true)) rfl ?_)
      refine s_nil ?_
      refine t_norm (hK2 _ _ ?_)
      refine wp_ret ?_
      refine c_ret1 Tryd.results87  (v := (.bool true)) rfl ?_
      exact ⟨by simp [fitsS, *], hH⟩
    · -- not: (m : Int) = 8
      refine s_on 10 rfl (congrArg Value.bool (decide_eq_false h4)) (o_move (v := (.int .i64 n)) rfl ?_)
      refine s_on 10 rfl (congrArg Value.bool (decide_eq_false h4)) (o_move (v := (.int .i64 (m : Int))) rfl ?_)
      refine s_on 10 rfl (congrArg Value.bool (decide_eq_false h4)) (o_mul (a := 8) (b := (m : Int)) rfl rfl (w64 (by omega) (by omega)) ?_)
      refine s_on 10 rfl (congrArg Value.bool (decide_eq_false h4)) (o_shr (c := Int.fdiv n (2 ^ (min (8 * (m : Int)).toNat 64))) rfl rfl (by omega) rfl ?_)
      refine s_on 10 rfl (congrArg Value.bool (decide_eq_false h4)) (o_eql (a := Int.fdiv n (2 ^ (min (8 * (m : Int)).toNat 64))) (b := 0) rfl rfl ?_)
      refine s_on 7 rfl (congrArg Value.bool (decide_eq_true h3)) (o_pick_f (u := (.bool (decide (Int.fdiv n (2 ^ (min (8 * (m : Int)).toNat 64)) = 0)))) ((rfl : _ = _).trans (congrArg Value.bool (decide_eq_false h4))) rfl ?_)
      refine s_op (o_pick_t (u := (.bool (decide (Int.fdiv n (2 ^ (min (8 * (m : Int)).toNat 64)) = 0)))) ((rfl : _ = _).trans (congrArg Value.bool (decide_eq_true h3))) rfl ?_)
      refine s_op (o_assign (v := (.bool (decide (Int.fdiv n (2 ^ (min (8 * (m : Int)).toNat 64)) = 0)))) rfl ?_)
      refine s_nil ?_
      refine t_norm (hK2 _ _ ?_)
      refine wp_ret ?_
      refine c_ret1 Tryd.results87  (v := (.bool (decide (Int.fdiv n (2 ^ (min (8 * (m : Int)).toNat 64)) = 0)))) rfl ?_
      exact ⟨by simp [fitsS, *], hH⟩
  · -- not: 0 ≤ n
    refine s_off (b' := false) 7 rfl (congrArg Value.bool (decide_eq_false h3)) rfl ?_
    refine s_off (b' := false) 7 rfl (congrArg Value.bool (decide_eq_false h3)) rfl ?_
    refine s_off (b' := false) 7 rfl (congrArg Value.bool (decide_eq_false h3)) rfl ?_
    refine s_offu 10 rfl rfl ?_
    refine s_offu 10 rfl rfl ?_
    refine s_offu 10 rfl rfl ?_
    refine s_offu 10 rfl rfl ?_
    refine s_offu 10 rfl rfl ?_
    refine s_off (b' := false) 7 rfl (congrArg Value.bool (decide_eq_false h3)) rfl ?_
    refine s_op (o_pick_f (u := (.bool false)) ((rfl : _ = _).trans (congrArg Value.bool (decide_eq_false h3))) rfl ?_)
    refine s_op (o_assign (v := (.bool false)) rfl ?_)
    refine s_nil ?_
    refine t_norm (hK2 _ _ ?_)
    refine wp_ret ?_
    refine c_ret1 Tryd.results87  (v := (.bool false)) rfl ?_
    exact ⟨by simp [fitsS, *], hH⟩
set_option maxHeartbeats 4000000 in
theorem put_c {E w : World} {R : List Hp} (hH : Has E w [R]) (m : Nat) {v : Value} {l : List Int} (hv : Ints R v l) (hl : l.length ≤ 1000000) :
    Calls Tryd.prog 53 #[(.int .i64 (m : Int)), v] w fun e w' => e = .returned (S (putS m l)) ∧ Has E w' [R] := by
  have hml0 : 0 ≤ (m : Int) * (l.length : Int) := Int.mul_nonneg (by omega) (by omega)
  have hml : m ≤ 8 → (m : Int) * (l.length : Int) ≤ 8000000 := fun h => by have h2 : m * l.length ≤ 8 * 1000000 := Nat.mul_le_mul h hl; have h3 := Int.ofNat_le.2 h2; rw [Int.natCast_mul] at h3; omega
  refine c_enter (args := [(.int .i64 (m : Int)), v]) Tryd.func53 rfl Tryd.ntmps53 (by simp) ?_
  refine wp_seq_k fun K1 hK1 => ?_
  refine c_region ?_
  refine s_op (o_assign (v := (S ([] : List UInt8))) rfl ?_)
  refine s_nil ?_
  refine t_norm (hK1 _ _ ?_)
  refine wp_seq_k fun K2 hK2 => ?_
  refine wp_seq_k fun K3 hK3 => ?_
  refine c_region ?_
  refine s_op (o_move (v := (.int .i64 (m : Int))) rfl ?_)
  refine s_op (o_lss (a := (m : Int)) (b := 1) rfl rfl ?_)
  refine s_op (o_move (v := (.bool (decide ((m : Int) < 1)))) rfl ?_)
  by_cases h4 : (m : Int) < 1
  · -- (m : Int) < 1
    refine s_off (b' := true) 11 rfl (congrArg Value.bool (decide_eq_true h4)) rfl ?_
    refine s_off (b' := true) 11 rfl (congrArg Value.bool (decide_eq_true h4)) rfl ?_
    refine s_op (o_pick_t (u := (.bool true)) ((rfl : _ = _).trans (congrArg Value.bool (decide_eq_true h4))) rfl ?_)
    refine s_nil ?_
    refine t_norm (hK3 _ _ ?_)
    refine c_true rfl rfl ?_
    refine wp_seq_k fun K5 hK5 => ?_
    refine c_region ?_
    refine s_op (o_assign (v := (S ([] : List UInt8))) rfl ?_)
    refine s_nil ?_
    refine t_norm (hK5 _ _ ?_)
    refine wp_ret ?_
    refine t_ret (c_ret1 Tryd.results53  (v := (S ([] : List UInt8))) rfl ?_)
    exact ⟨by rw [putS, if_neg (by omega)], hH⟩
  · -- not: (m : Int) < 1
    refine s_on 11 rfl (congrArg Value.bool (decide_eq_false h4)) (o_move (v := (.int .i64 (m : Int))) rfl ?_)
    refine s_on 11 rfl (congrArg Value.bool (decide_eq_false h4)) (o_gtr (a := (m : Int)) (b := 8) rfl rfl ?_)
    refine s_op (o_pick_f (u := (.bool (decide (8 < (m : Int))))) ((rfl : _ = _).trans (congrArg Value.bool (decide_eq_false h4))) rfl ?_)
    refine s_nil ?_
    refine t_norm (hK3 _ _ ?_)
    refine c_cond rfl (fun h6 => ?_) (fun h6 => ?_)
    · -- 8 < (m : Int)
      refine wp_seq_k fun K7 hK7 => ?_
      refine c_region ?_
      refine s_op (o_assign (v := (S ([] : List UInt8))) rfl ?_)
      refine s_nil ?_
      refine t_norm (hK7 _ _ ?_)
      refine wp_ret ?_
      refine t_ret (c_ret1 Tryd.results53  (v := (S ([] : List UInt8))) rfl ?_)
      exact ⟨by rw [putS, if_neg (by omega)], hH⟩
    · -- not: 8 < (m : Int)
      refine wp_skip ?_
      refine t_norm (hK2 _ _ ?_)
      refine wp_seq_k fun K8 hK8 => ?_
      refine c_region ?_
      refine s_op (o_move (v := (.int .i64 (m : Int))) rfl ?_)
      refine s_op (o_move (v := v) rfl ?_)
      refine s_op (o_lenS Tryd.underlying56 rfl hv ?_)
      refine s_op (o_mul (a := (m : Int)) (b := ((l.length : Nat) : Int)) rfl rfl (w64 (by omega) (by omega)) ?_)
      refine s_op (o_make Tryd.underlying55 ti5 rfl rfl (by omega) (by omega) (by omega) (by omega) hH fun v9 s10 w12 ho11 hH13 => ?_)
      have ho11 : Own 5 1 v9 0 [] s10 := by simpa using ho11
      refine s_op (o_assign (v := v9) rfl ?_)
      refine s_nil ?_
      refine t_norm (hK8 _ _ ?_)
      refine wp_seq_k fun K14 hK14 => ?_
      refine wp_seq_k fun K15 hK15 => ?_
      refine c_region ?_
      refine s_op (o_move (v := v) rfl ?_)
      refine s_op (o_lenS Tryd.underlying56 rfl hv ?_)
      refine s_op (o_move (v := (.int .i64 0)) rfl ?_)
      refine s_nil ?_
      refine t_norm (hK15 _ _ ?_)
      refine wp_block ?_
      let I17 : Nat → (Nat → Value) → World → Prop := fun n__ r__ w__ => ∃ (k : Nat) (vb : Value) (hs : List Hp) (lb : List UInt8), n__ = l.length - k ∧ Has E w__ [hs, R] ∧ (k ≤ l.length) ∧ (Own 5 1 vb lb.length (lb.map bV) hs) ∧ (lb = (l.take k).flatMap (beFrom · m)) ∧ (∀ x ∈ l.take k, fitsS x m = true) ∧ (lb.length ≤ 8 * k) ∧ r__ 0 = (.int .i64 (m : Int)) ∧ r__ 1 = v ∧ r__ 5 = vb ∧ r__ 14 = (.bool (decide (8 < (m : Int)))) ∧ r__ 20 = v ∧ r__ 21 = (.int .i64 ((l.length : Nat) : Int)) ∧ r__ 22 = (.int .i64 (k : Int))
      refine c_loop I17 _ ⟨0, v9, s10, [], rfl, hH13, Nat.zero_le _, ho11, rfl, (by simp), (by simp), rfl, rfl, rfl, rfl, rfl, rfl, rfl⟩ ?_
      rintro n_ r20 w18 ⟨k, vb, hs, lb, rfl, hH19, hk, hob, hlb, hfit, hlen, e16_0, e16_1, e16_5, e16_14, e16_20, e16_21, e16_22⟩
      refine wp_seq_k fun K21 hK21 => ?_
      refine c_region ?_
      refine s_op (o_lss (a := (k : Int)) (b := ((l.length : Nat) : Int)) e16_22 e16_21 ?_)
      refine s_nil ?_
      refine t_norm (hK21 _ _ ?_)
      refine wp_seq_k fun K22 hK22 => ?_
      refine c_cond rfl (fun h23 => ?_) (fun h23 => ?_)
      · -- (k : Int) < ((l.length : Nat) : Int)
        refine wp_skip ?_
        refine t_norm (hK22 _ _ ?_)
        refine wp_seq_k fun K24 hK24 => ?_
        refine wp_block ?_
        refine wp_seq_k fun K25 hK25 => ?_
        refine c_region ?_
        obtain ⟨x29, hx30⟩ : ∃ x_, l[((k : Int)).toNat]? = some x_ := get_some (by omega)
        refine s_op (o_index1 Tryd.underlying56 ti3 e16_20 hv e16_22 (by omega) hx30 fun b26 o27 hc28 => ?_)
        refine s_op (o_load1 (v := (.int .i64 x29)) Tryd.underlying3 rfl rfl hH19 (seg_sub 1 rfl) hc28 ?_)
        refine s_op (o_assign (v := (.int .i64 x29)) rfl ?_)
        refine s_nil ?_
        refine t_norm (hK25 _ _ ?_)
        refine wp_seq_k fun K31 hK31 => ?_
        refine wp_seq_k fun K32 hK32 => ?_
        refine c_region ?_
        refine s_op (o_move (v := (.int .i64 x29)) rfl ?_)
        refine s_op (o_move (v := (.int .i64 (m : Int))) e16_0 ?_)
        refine s_op (o_callf (vs := #[(.int .i64 x29), (.int .i64 (m : Int))]) ca87 rfl (args2 rfl rfl) (fits_c hH19.all x29 m (by omega)) ?_)
        rintro _ w35 ⟨rfl, hX33⟩
        refine ⟨_, rfl, ?_⟩
        have hH34 := hX33.of_all
        refine s_op (o_not rfl ?_)
        refine s_nil ?_
        refine t_norm (hK32 _ _ ?_)
        refine c_condb rfl (fun h36 => ?_) (fun h36 => ?_)
        · -- !(fitsS x29 m)
          have h36_n : (fitsS x29 m) = false := by simpa using h36
          refine wp_seq_k fun K37 hK37 => ?_
          refine c_region ?_
          refine s_op (o_assign (v := (S ([] : List UInt8))) rfl ?_)
          refine s_nil ?_
          refine t_norm (hK37 _ _ ?_)
          refine wp_ret ?_
          refine t_ret (b_ret (t_ret (t_ret (b_ret (t_ret (c_ret1 Tryd.results53  (v := (S ([] : List UInt8))) rfl ?_))))))
          have hH38 : Has E w35 [R] := (hH34.front 1 rfl).first 1 rfl
          exact ⟨by rw [putS_no (x := x29) (List.mem_of_getElem? hx30) (by simpa using h36)], hH38⟩
        · -- not: !(fitsS x29 m)
          have h36_n : (fitsS x29 m) = true := by simpa using h36
          refine wp_skip ?_
          refine t_norm (hK31 _ _ ?_)
          refine wp_seq_k fun K39 hK39 => ?_
          refine c_region ?_
          refine s_op (o_move (v := (.int .i64 (m : Int))) e16_0 ?_)
          refine s_op (o_sub (a := (m : Int)) (b := 1) rfl rfl (w64 (by omega) (by omega)) ?_)
          refine s_op (o_assign (v := (.int .i64 ((m : Int) - 1))) rfl ?_)
          refine s_nil ?_
          refine t_norm (hK39 _ _ ?_)
          refine wp_block ?_
          let I41 : Nat → (Nat → Value) → World → Prop := fun n__ r__ w__ => ∃ (j : Nat) (i : Int) (vc : Value) (hs2 : List Hp) (lc : List UInt8), n__ = j + 1 ∧ Has E w__ [hs2, R] ∧ (j ≤ m) ∧ (i = (j : Int) - 1) ∧ (Own 5 1 vc lc.length (lc.map bV) hs2) ∧ (lb ++ beFrom x29 m = lc ++ beFrom x29 j) ∧ (lc.length + j ≤ lb.length + m) ∧ r__ 0 = (.int .i64 (m : Int)) ∧ r__ 1 = v ∧ r__ 5 = vc ∧ r__ 7 = (.int .i64 x29) ∧ r__ 8 = (.int .i64 i) ∧ r__ 14 = (.bool (decide (8 < (m : Int)))) ∧ r__ 20 = v ∧ r__ 21 = (.int .i64 ((l.length : Nat) : Int)) ∧ r__ 22 = (.int .i64 (k : Int)) ∧ r__ 23 = (.bool (decide ((k : Int) < ((l.length : Nat) : Int)))) ∧ r__ 29 = (.bool (!(fitsS x29 m)))
          refine c_loop I41 _ ⟨m, ((m : Int) - 1), vb, hs, lb, rfl, hH34, Nat.le_refl _, rfl, hob, rfl, (by omega), e16_0, e16_1, e16_5, rfl, rfl, e16_14, e16_20, e16_21, e16_22, rfl, rfl⟩ ?_
          rintro n_ r44 w42 ⟨j, i, vc, hs2, lc, rfl, hH43, hj, hi, hoc, hpart, hlen2, e40_0, e40_1, e40_5, e40_7, e40_8, e40_14, e40_20, e40_21, e40_22, e40_23, e40_29⟩
          refine wp_seq_k fun K45 hK45 => ?_
          refine wp_seq_k fun K46 hK46 => ?_
          refine c_region ?_
          refine s_op (o_move (v := (.int .i64 i)) e40_8 ?_)
          refine s_op (o_geq (a := i) (b := 0) rfl rfl ?_)
          refine s_nil ?_
          refine t_norm (hK46 _ _ ?_)
          refine c_cond rfl (fun h47 => ?_) (fun h47 => ?_)
          · -- 0 ≤ i
            refine wp_skip ?_
            refine t_norm (hK45 _ _ ?_)
            refine wp_seq_k fun K48 hK48 => ?_
            refine wp_block ?_
            refine c_region ?_
            refine s_op (o_move (v := vc) e40_5 ?_)
            refine s_op (o_move (v := (.int .i64 x29)) e40_7 ?_)
            refine s_op (o_move (v := (.int .i64 i)) e40_8 ?_)
            refine s_op (o_mul (a := 8) (b := i) rfl rfl (w64 (by omega) (by omega)) ?_)
            refine s_op (o_shr (c := Int.fdiv x29 (2 ^ (min (8 * i).toNat 64))) rfl rfl (by omega) rfl ?_)
            refine s_op (o_conv (c := ((by8 (Int.fdiv x29 (2 ^ (min (8 * i).toNat 64)))).toNat : Int)) Tryd.underlying3 Tryd.underlying5 rfl (wrap_by8 _) ?_)
            refine s_op (o_buildSlice (ps := #[(0, (bV (by8 (Int.fdiv x29 (2 ^ (min (8 * i).toNat 64))))))]) (cells := #[(bV (by8 (Int.fdiv x29 (2 ^ (min (8 * i).toNat 64)))))]) Tryd.underlying55 ti5 (by decide) (parts1 rfl) (by kernel_rfl) hH43 fun b49 w50 hH51 => ?_)
            refine s_op (o_append Tryd.underlying55 ti5 rfl (by decide) rfl hoc rfl (sl_lit (f := bV) (l := [(by8 (Int.fdiv x29 (2 ^ (min (8 * i).toNat 64))))]) rfl rfl (by simp)) (hH51.front 1 rfl) (seg_sub 0 rfl) (one_bV _) (by simp; omega) (by simp; omega) fun v52 s53 w55 ho54 hH56 => ?_)
            have ho54 : Own 5 1 v52 (lc ++ [(by8 (Int.fdiv x29 (2 ^ (min (8 * i).toNat 64))))]).length ((lc ++ [(by8 (Int.fdiv x29 (2 ^ (min (8 * i).toNat 64))))]).map bV) s53 := ho54.app
            refine s_op (o_assign (v := v52) rfl ?_)
            refine s_nil ?_
            refine b_norm ?_
            refine t_norm (hK48 _ _ ?_)
            refine c_region ?_
            refine s_op (o_move (v := (.int .i64 i)) e40_8 ?_)
            refine s_op (o_sub (a := i) (b := 1) rfl rfl (w64 (by omega) (by omega)) ?_)
            refine s_op (o_assign (v := (.int .i64 (i - 1))) rfl ?_)
            refine s_nil ?_
            have hH57 : Has E w55 [s53, R] := ((hH56.front 2 rfl).front 1 rfl).first 2 rfl
            refine t_norm ⟨(j - 1) + 1, _, rfl, ?_, ?_⟩
            · omega
            · exact ⟨(j - 1), (i - 1), v52, s53, (lc ++ [(by8 (Int.fdiv x29 (2 ^ (min (8 * i).toNat 64))))]), rfl, hH57, (by omega), (by omega), (ho54), (by rw [hpart, beFrom_pred (by omega), hi, by8_shift _ (by omega) (by omega)]; simp [List.append_assoc]), (by simp; omega), e40_0, e40_1, rfl, e40_7, rfl, e40_14, e40_20, e40_21, e40_22, e40_23, e40_29⟩
          · -- not: 0 ≤ i
            refine wp_exit ?_
            refine t_exit (t_exit (x_in (?_)))
            refine b_norm ?_
            refine t_norm (hK24 _ _ ?_)
            refine c_region ?_
            refine s_op (o_add (a := (k : Int)) (b := 1) e40_22 rfl (w64 (by omega) (by omega)) ?_)
            refine s_op (o_move (v := (.int .i64 ((k : Int) + 1))) rfl ?_)
            refine s_nil ?_
            refine t_norm ⟨l.length - (k + 1), _, rfl, ?_, ?_⟩
            · omega
            · exact ⟨(k + 1), vc, hs2, lc, rfl, hH43, (by omega), (hoc), (by (have e : j = 0 := by omega); rw [e] at hpart; rw [take_succ_of (by simpa using hx30), List.flatMap_append, ← hlb]; simpa [beFrom] using hpart.symm), (by rw [take_succ_of (by simpa using hx30)]; exact fun x hx => (List.mem_append.1 hx).elim (hfit x) (fun h => by simp at h; subst h; simpa using h36)), (by omega), e40_0, e40_1, e40_5, e40_14, e40_20, e40_21, rfl⟩
      · -- not: (k : Int) < ((l.length : Nat) : Int)
        refine wp_exit ?_
        refine t_exit (t_exit (x_in (?_)))
        refine t_norm (hK14 _ _ ?_)
        refine wp_seq_k fun K58 hK58 => ?_
        refine c_region ?_
        refine s_op (o_move (v := vb) e16_5 ?_)
        refine s_op (o_bstr Tryd.underlying55 Tryd.underlying5 Tryd.underlying9 rfl hob.sl hH19 (seg_sub 0 rfl) ?_)
        refine s_op (o_assign (v := (S lb)) rfl ?_)
        refine s_nil ?_
        refine t_norm (hK58 _ _ ?_)
        refine wp_ret ?_
        refine c_ret1 Tryd.results53  (v := (S lb)) rfl ?_
        have hH59 : Has E w18 [R] := (hH19.front 1 rfl).first 1 rfl
        have e : k = l.length := by omega
        subst e
        rw [List.take_of_length_le (Nat.le_refl _)] at hlb hfit
        exact ⟨by rw [putS_yes (by omega) (by omega) hfit, hlb], hH59⟩
set_option maxHeartbeats 4000000 in
theorem take_c {E w : World} {R : List Hp} (hH : Has E w [R]) (m : Nat) (s : List UInt8) (hsl : s.length ≤ 9223372036854775807) :
    Calls Tryd.prog 49 #[(S s), (.int .i64 (m : Int))] w fun e w' => e = .returned (.tuple #[.int .i64 (takeS s m).1, S (takeS s m).2.1, .bool (takeS s m).2.2]) ∧ Has E w' [R] := by
  refine c_enter (args := [(S s), (.int .i64 (m : Int))]) Tryd.func49 rfl Tryd.ntmps49 (by simp) ?_
  refine wp_seq_k fun K1 hK1 => ?_
  refine c_region ?_
  refine s_op (o_assign (v := (.int .i64 0)) rfl ?_)
  refine s_op (o_assign (v := (S ([] : List UInt8))) rfl ?_)
  refine s_op (o_assign (v := (.bool false)) rfl ?_)
  refine s_nil ?_
  refine t_norm (hK1 _ _ ?_)
  refine wp_seq_k fun K2 hK2 => ?_
  refine wp_seq_k fun K3 hK3 => ?_
  refine c_region ?_
  refine s_op (o_move (v := (.int .i64 (m : Int))) rfl ?_)
  refine s_op (o_lss (a := (m : Int)) (b := 1) rfl rfl ?_)
  refine s_op (o_move (v := (.bool (decide ((m : Int) < 1)))) rfl ?_)
  by_cases h4 : (m : Int) < 1
  · -- (m : Int) < 1
    refine s_off (b' := true) 11 rfl (congrArg Value.bool (decide_eq_true h4)) rfl ?_
    refine s_off (b' := true) 11 rfl (congrArg Value.bool (decide_eq_true h4)) rfl ?_
    refine s_op (o_pick_t (u := (.bool true)) ((rfl : _ = _).trans (congrArg Value.bool (decide_eq_true h4))) rfl ?_)
    refine s_op (o_move (v := (.bool true)) rfl ?_)
    refine s_off (b' := true) 15 rfl rfl rfl ?_
    refine s_off (b' := true) 15 rfl rfl rfl ?_
    refine s_off (b' := true) 15 rfl rfl rfl ?_
    refine s_off (b' := true) 15 rfl rfl rfl ?_
    refine s_op (o_pick_t (u := (.bool true)) rfl rfl ?_)
    refine s_op (o_move (v := (.bool true)) rfl ?_)
    refine s_off (b' := true) 21 rfl rfl rfl ?_
    refine s_off (b' := true) 21 rfl rfl rfl ?_
    refine s_off (b' := true) 21 rfl rfl rfl ?_
    refine s_offu 24 rfl rfl ?_
    refine s_offu 24 rfl rfl ?_
    refine s_offu 24 rfl rfl ?_
    refine s_off (b' := true) 21 rfl rfl rfl ?_
    refine s_op (o_pick_t (u := (.bool true)) rfl rfl ?_)
    refine s_nil ?_
    refine t_norm (hK3 _ _ ?_)
    refine c_true rfl rfl ?_
    refine wp_seq_k fun K5 hK5 => ?_
    refine c_region ?_
    refine s_op (o_move (v := (S s)) rfl ?_)
    refine s_op (o_assign (v := (.int .i64 0)) rfl ?_)
    refine s_op (o_assign (v := (S s)) rfl ?_)
    refine s_op (o_assign (v := (.bool false)) rfl ?_)
    refine s_nil ?_
    refine t_norm (hK5 _ _ ?_)
    refine wp_ret ?_
    refine t_ret (c_ret3 Tryd.results49  (v := (.int .i64 0)) rfl (x := (S s)) rfl (y := (.bool false)) rfl ?_)
    exact ⟨by rw [takeS_no (by first | exact .inl (by omega) | exact .inr (.inl (by omega)) | exact .inr (.inr ⟨by omega, 0, by simpa using rfl, by omega⟩))], hH⟩
  · -- not: (m : Int) < 1
    refine s_on 11 rfl (congrArg Value.bool (decide_eq_false h4)) (o_move (v := (.int .i64 (m : Int))) rfl ?_)
    refine s_on 11 rfl (congrArg Value.bool (decide_eq_false h4)) (o_gtr (a := (m : Int)) (b := 8) rfl rfl ?_)
    refine s_op (o_pick_f (u := (.bool (decide (8 < (m : Int))))) ((rfl : _ = _).trans (congrArg Value.bool (decide_eq_false h4))) rfl ?_)
    refine s_op (o_move (v := (.bool (decide (8 < (m : Int))))) rfl ?_)
    by_cases h6 : 8 < (m : Int)
    · -- 8 < (m : Int)
      refine s_off (b' := true) 15 rfl (congrArg Value.bool (decide_eq_true h6)) rfl ?_
      refine s_off (b' := true) 15 rfl (congrArg Value.bool (decide_eq_true h6)) rfl ?_
      refine s_off (b' := true) 15 rfl (congrArg Value.bool (decide_eq_true h6)) rfl ?_
      refine s_off (b' := true) 15 rfl (congrArg Value.bool (decide_eq_true h6)) rfl ?_
      refine s_op (o_pick_t (u := (.bool true)) ((rfl : _ = _).trans (congrArg Value.bool (decide_eq_true h6))) rfl ?_)
      refine s_op (o_move (v := (.bool true)) rfl ?_)
      refine s_off (b' := true) 21 rfl rfl rfl ?_
      refine s_off (b' := true) 21 rfl rfl rfl ?_
      refine s_off (b' := true) 21 rfl rfl rfl ?_
      refine s_offu 24 rfl rfl ?_
      refine s_offu 24 rfl rfl ?_
      refine s_offu 24 rfl rfl ?_
      refine s_off (b' := true) 21 rfl rfl rfl ?_
      refine s_op (o_pick_t (u := (.bool true)) rfl rfl ?_)
      refine s_nil ?_
      refine t_norm (hK3 _ _ ?_)
      refine c_true rfl rfl ?_
      refine wp_seq_k fun K7 hK7 => ?_
      refine c_region ?_
      refine s_op (o_move (v := (S s)) rfl ?_)
      refine s_op (o_assign (v := (.int .i64 0)) rfl ?_)
      refine s_op (o_assign (v := (S s)) rfl ?_)
      refine s_op (o_assign (v := (.bool false)) rfl ?_)
      refine s_nil ?_
      refine t_norm (hK7 _ _ ?_)
      refine wp_ret ?_
      refine t_ret (c_ret3 Tryd.results49  (v := (.int .i64 0)) rfl (x := (S s)) rfl (y := (.bool false)) rfl ?_)
      exact ⟨by rw [takeS_no (by first | exact .inl (by omega) | exact .inr (.inl (by omega)) | exact .inr (.inr ⟨by omega, 0, by simpa using rfl, by omega⟩))], hH⟩
    · -- not: 8 < (m : Int)
      refine s_on 15 rfl (congrArg Value.bool (decide_eq_false h6)) (o_move (v := (S s)) rfl ?_)
      refine s_on 15 rfl (congrArg Value.bool (decide_eq_false h6)) (o_slen Tryd.underlying9 rfl ?_)
      refine s_on 15 rfl (congrArg Value.bool (decide_eq_false h6)) (o_move (v := (.int .i64 (m : Int))) rfl ?_)
      refine s_on 15 rfl (congrArg Value.bool (decide_eq_false h6)) (o_lss (a := (s.length : Int)) (b := (m : Int)) rfl rfl ?_)
      refine s_op (o_pick_f (u := (.bool (decide ((s.length : Int) < (m : Int))))) ((rfl : _ = _).trans (congrArg Value.bool (decide_eq_false h6))) rfl ?_)
      refine s_op (o_move (v := (.bool (decide ((s.length : Int) < (m : Int))))) rfl ?_)
      by_cases h8 : (s.length : Int) < (m : Int)
      · -- (s.length : Int) < (m : Int)
        refine s_off (b' := true) 21 rfl (congrArg Value.bool (decide_eq_true h8)) rfl ?_
        refine s_off (b' := true) 21 rfl (congrArg Value.bool (decide_eq_true h8)) rfl ?_
        refine s_off (b' := true) 21 rfl (congrArg Value.bool (decide_eq_true h8)) rfl ?_
        refine s_offu 24 rfl rfl ?_
        refine s_offu 24 rfl rfl ?_
        refine s_offu 24 rfl rfl ?_
        refine s_off (b' := true) 21 rfl (congrArg Value.bool (decide_eq_true h8)) rfl ?_
        refine s_op (o_pick_t (u := (.bool true)) ((rfl : _ = _).trans (congrArg Value.bool (decide_eq_true h8))) rfl ?_)
        refine s_nil ?_
        refine t_norm (hK3 _ _ ?_)
        refine c_true rfl rfl ?_
        refine wp_seq_k fun K9 hK9 => ?_
        refine c_region ?_
        refine s_op (o_move (v := (S s)) rfl ?_)
        refine s_op (o_assign (v := (.int .i64 0)) rfl ?_)
        refine s_op (o_assign (v := (S s)) rfl ?_)
        refine s_op (o_assign (v := (.bool false)) rfl ?_)
        refine s_nil ?_
        refine t_norm (hK9 _ _ ?_)
        refine wp_ret ?_
        refine t_ret (c_ret3 Tryd.results49  (v := (.int .i64 0)) rfl (x := (S s)) rfl (y := (.bool false)) rfl ?_)
        exact ⟨by rw [takeS_no (by first | exact .inl (by omega) | exact .inr (.inl (by omega)) | exact .inr (.inr ⟨by omega, 0, by simpa using rfl, by omega⟩))], hH⟩
      · -- not: (s.length : Int) < (m : Int)
        refine s_on 21 rfl (congrArg Value.bool (decide_eq_false h8)) (o_move (v := (.int .i64 (m : Int))) rfl ?_)
        refine s_on 21 rfl (congrArg Value.bool (decide_eq_false h8)) (o_eql (a := (m : Int)) (b := 8) rfl rfl ?_)
        refine s_on 21 rfl (congrArg Value.bool (decide_eq_false h8)) (o_move (v := (.bool (decide ((m : Int) = 8)))) rfl ?_)
        by_cases h10 : (m : Int) = 8
        · -- (m : Int) = 8
          refine s_on 24 rfl (congrArg Value.bool (decide_eq_true h10)) (o_move (v := (S s)) rfl ?_)
          obtain ⟨c11, hx12⟩ : ∃ x_, s[((0 : Int)).toNat]? = some x_ := get_some (by omega)
          have c11_lt := c11.toNat_lt
          refine s_on 24 rfl (congrArg Value.bool (decide_eq_true h10)) (o_sidx Tryd.underlying9 rfl rfl (by omega) hx12 ?_)
          refine s_on 24 rfl (congrArg Value.bool (decide_eq_true h10)) (o_gtr (a := (c11.toNat : Int)) (b := 127) rfl rfl ?_)
          refine s_on 21 rfl (congrArg Value.bool (decide_eq_false h8)) (o_pick_t (u := (.bool (decide (127 < (c11.toNat : Int))))) ((rfl : _ = _).trans (congrArg Value.bool (decide_eq_true h10))) rfl ?_)
          refine s_op (o_pick_f (u := (.bool (decide (127 < (c11.toNat : Int))))) ((rfl : _ = _).trans (congrArg Value.bool (decide_eq_false h8))) rfl ?_)
          refine s_nil ?_
          refine t_norm (hK3 _ _ ?_)
          refine c_cond rfl (fun h13 => ?_) (fun h13 => ?_)
          · -- 127 < (c11.toNat : Int)
            refine wp_seq_k fun K14 hK14 => ?_
            refine c_region ?_
            refine s_op (o_move (v := (S s)) rfl ?_)
            refine s_op (o_assign (v := (.int .i64 0)) rfl ?_)
            refine s_op (o_assign (v := (S s)) rfl ?_)
            refine s_op (o_assign (v := (.bool false)) rfl ?_)
            refine s_nil ?_
            refine t_norm (hK14 _ _ ?_)
            refine wp_ret ?_
            refine t_ret (c_ret3 Tryd.results49  (v := (.int .i64 0)) rfl (x := (S s)) rfl (y := (.bool false)) rfl ?_)
            exact ⟨by rw [takeS_no (by first | exact .inl (by omega) | exact .inr (.inl (by omega)) | exact .inr (.inr ⟨by omega, c11, by simpa using hx12, by omega⟩))], hH⟩
          · -- not: 127 < (c11.toNat : Int)
            refine wp_skip ?_
            refine t_norm (hK2 _ _ ?_)
            refine wp_seq_k fun K15 hK15 => ?_
            refine c_region ?_
            refine s_op (o_assign (v := (.int .i64 0)) rfl ?_)
            refine s_nil ?_
            refine t_norm (hK15 _ _ ?_)
            refine wp_seq_k fun K16 hK16 => ?_
            refine wp_seq_k fun K17 hK17 => ?_
            refine c_region ?_
            refine s_op (o_move (v := (.int .i64 (m : Int))) rfl ?_)
            refine s_op (o_move (v := (.int .i64 0)) rfl ?_)
            refine s_nil ?_
            refine t_norm (hK17 _ _ ?_)
            refine wp_block ?_
            let I19 : Nat → (Nat → Value) → World → Prop := fun n__ r__ w__ => ∃ (i : Nat) (y : Int), n__ = m - i ∧ Has E w__ [R] ∧ (i ≤ m) ∧ (y = beVal (s.take i)) ∧ r__ 0 = (S s) ∧ r__ 1 = (.int .i64 (m : Int)) ∧ r__ 4 = (.int .i64 0) ∧ r__ 5 = (S ([] : List UInt8)) ∧ r__ 6 = (.bool false) ∧ r__ 7 = (.int .i64 y) ∧ r__ 29 = (.bool (decide (127 < (c11.toNat : Int)))) ∧ r__ 31 = (.int .i64 (m : Int)) ∧ r__ 32 = (.int .i64 (i : Int))
            refine c_loop I19 _ ⟨0, 0, rfl, hH, Nat.zero_le _, rfl, rfl, rfl, rfl, rfl, rfl, rfl, rfl, rfl, rfl⟩ ?_
            rintro n_ r22 w20 ⟨i, y, rfl, hH21, hi, hy, e18_0, e18_1, e18_4, e18_5, e18_6, e18_7, e18_29, e18_31, e18_32⟩
            have hb0 := beVal_nonneg (s.take i)
            have hb1 : i < m → beVal (s.take i) < 36028797018963968 := fun h => beVal_lt h (by omega) (by omega) (.inr (first_byte (by simpa using hx12) (by omega)))
            refine wp_seq_k fun K23 hK23 => ?_
            refine c_region ?_
            refine s_op (o_lss (a := (i : Int)) (b := (m : Int)) e18_32 e18_31 ?_)
            refine s_nil ?_
            refine t_norm (hK23 _ _ ?_)
            refine wp_seq_k fun K24 hK24 => ?_
            refine c_cond rfl (fun h25 => ?_) (fun h25 => ?_)
            · -- (i : Int) < (m : Int)
              refine wp_skip ?_
              refine t_norm (hK24 _ _ ?_)
              refine wp_seq_k fun K26 hK26 => ?_
              refine wp_block ?_
              refine wp_seq_k fun K27 hK27 => ?_
              refine c_region ?_
              refine s_op (o_move (v := (.int .i64 (i : Int))) e18_32 ?_)
              refine s_op (o_assign (v := (.int .i64 (i : Int))) rfl ?_)
              refine s_nil ?_
              refine t_norm (hK27 _ _ ?_)
              refine c_region ?_
              refine s_op (o_move (v := (.int .i64 y)) e18_7 ?_)
              refine s_op (o_shl (c := y * 256) rfl rfl (by omega) (shl_lit (by omega) (by omega) rfl) ?_)
              refine s_op (o_move (v := (S s)) e18_0 ?_)
              refine s_op (o_move (v := (.int .i64 (i : Int))) rfl ?_)
              obtain ⟨c28, hx29⟩ : ∃ x_, s[((i : Int)).toNat]? = some x_ := get_some (by omega)
              have c28_lt := c28.toNat_lt
              refine s_op (o_sidx Tryd.underlying9 rfl rfl (by omega) hx29 ?_)
              refine s_op (o_conv Tryd.underlying5 Tryd.underlying3 rfl (w_u8 _) ?_)
              refine s_op (o_or (c := y * 256 + (c28.toNat : Int)) rfl rfl (or8 (by omega) (by omega) _) ?_)
              refine s_op (o_assign (v := (.int .i64 (y * 256 + (c28.toNat : Int)))) rfl ?_)
              refine s_nil ?_
              refine b_norm ?_
              refine t_norm (hK26 _ _ ?_)
              refine c_region ?_
              refine s_op (o_add (a := (i : Int)) (b := 1) e18_32 rfl (w64 (by omega) (by omega)) ?_)
              refine s_op (o_move (v := (.int .i64 ((i : Int) + 1))) rfl ?_)
              refine s_nil ?_
              refine t_norm ⟨m - (i + 1), _, rfl, ?_, ?_⟩
              · omega
              · exact ⟨(i + 1), (y * 256 + (c28.toNat : Int)), rfl, hH21, (by omega), (by rw [take_succ_of (by simpa using hx29), beVal_snoc, ← hy]), e18_0, e18_1, e18_4, e18_5, e18_6, rfl, e18_29, e18_31, rfl⟩
            · -- not: (i : Int) < (m : Int)
              refine wp_exit ?_
              refine t_exit (t_exit (x_in (?_)))
              refine t_norm (hK16 _ _ ?_)
              refine wp_seq_k fun K30 hK30 => ?_
              refine Rest.region mixed (by kernel_rfl) ?_
              have hH31 : Has E { w20 with drawn := w20.drawn + 1 } [R] := Has0.drew hH21 _
              refine Rest.phaseA (fun w_ => Has E w_ []) 0 5 5 rfl (by decide) (by kernel_rfl) ?_
              refine a_op 0 rfl (by kernel_rfl) (fun w_ h_ => o_move (v := (.int .i64 y)) e18_7 ⟨rfl, rfl⟩) ?_
              refine a_op 1 rfl (by kernel_rfl) (fun w_ h_ => o_move (v := (S s)) e18_0 ⟨rfl, rfl⟩) ?_
              refine a_op 2 rfl (by kernel_rfl) (fun w_ h_ => o_move (v := (.int .i64 (m : Int))) e18_1 ⟨rfl, rfl⟩) ?_
              refine a_op 3 rfl (by kernel_rfl) (fun w_ h_ => o_ssl_l Tryd.underlying9 rfl rfl (by omega) (by omega) ⟨rfl, rfl⟩) ?_
              refine a_op 4 rfl (by kernel_rfl) (fun w_ h_ => o_assign (v := (.int .i64 y)) rfl ⟨rfl, rfl⟩) ?_
              have hH32 : Has E { w20 with drawn := w20.drawn + 1 } [] := hH31.first 0 rfl
              refine a_done (by kernel_rfl) hH32 ?_
              refine r_op 5 rfl (by kernel_rfl) (o_assign (v := (S (s.drop ((m : Int)).toNat))) rfl ?_)
              refine r_op 6 rfl (by kernel_rfl) (o_assign (v := (.bool true)) rfl ?_)
              refine Rest.done (by kernel_rfl) ?_
              refine t_norm (hK30 _ _ ?_)
              refine wp_ret ?_
              refine c_ret3 Tryd.results49  (v := (.int .i64 y)) rfl (x := (S (s.drop ((m : Int)).toNat))) rfl (y := (.bool true)) rfl ?_
              have e : i = m := by omega
              rw [e] at hy
              exact ⟨by rw [takeS_yes (by omega) (by omega) (by omega) (.inr (first_byte (by simpa using hx12) (by omega))), hy]; rfl, hH31⟩
        · -- not: (m : Int) = 8
          refine s_off (b' := false) 24 rfl (congrArg Value.bool (decide_eq_false h10)) rfl ?_
          refine s_off (b' := false) 24 rfl (congrArg Value.bool (decide_eq_false h10)) rfl ?_
          refine s_off (b' := false) 24 rfl (congrArg Value.bool (decide_eq_false h10)) rfl ?_
          refine s_on 21 rfl (congrArg Value.bool (decide_eq_false h8)) (o_pick_f (u := (.bool false)) ((rfl : _ = _).trans (congrArg Value.bool (decide_eq_false h10))) rfl ?_)
          refine s_op (o_pick_f (u := (.bool false)) ((rfl : _ = _).trans (congrArg Value.bool (decide_eq_false h8))) rfl ?_)
          refine s_nil ?_
          refine t_norm (hK3 _ _ ?_)
          refine c_false rfl rfl ?_
          refine wp_skip ?_
          refine t_norm (hK2 _ _ ?_)
          refine wp_seq_k fun K33 hK33 => ?_
          refine c_region ?_
          refine s_op (o_assign (v := (.int .i64 0)) rfl ?_)
          refine s_nil ?_
          refine t_norm (hK33 _ _ ?_)
          refine wp_seq_k fun K34 hK34 => ?_
          refine wp_seq_k fun K35 hK35 => ?_
          refine c_region ?_
          refine s_op (o_move (v := (.int .i64 (m : Int))) rfl ?_)
          refine s_op (o_move (v := (.int .i64 0)) rfl ?_)
          refine s_nil ?_
          refine t_norm (hK35 _ _ ?_)
          refine wp_block ?_
          let I37 : Nat → (Nat → Value) → World → Prop := fun n__ r__ w__ => ∃ (i : Nat) (y : Int), n__ = m - i ∧ Has E w__ [R] ∧ (i ≤ m) ∧ (y = beVal (s.take i)) ∧ r__ 0 = (S s) ∧ r__ 1 = (.int .i64 (m : Int)) ∧ r__ 4 = (.int .i64 0) ∧ r__ 5 = (S ([] : List UInt8)) ∧ r__ 6 = (.bool false) ∧ r__ 7 = (.int .i64 y) ∧ r__ 29 = (.bool false) ∧ r__ 31 = (.int .i64 (m : Int)) ∧ r__ 32 = (.int .i64 (i : Int))
          refine c_loop I37 _ ⟨0, 0, rfl, hH, Nat.zero_le _, rfl, rfl, rfl, rfl, rfl, rfl, rfl, rfl, rfl, rfl⟩ ?_
          rintro n_ r40 w38 ⟨i, y, rfl, hH39, hi, hy, e36_0, e36_1, e36_4, e36_5, e36_6, e36_7, e36_29, e36_31, e36_32⟩
          have hb0 := beVal_nonneg (s.take i)
          have hb1 : i < m → beVal (s.take i) < 36028797018963968 := fun h => beVal_lt h (by omega) (by omega) (.inl (by omega))
          refine wp_seq_k fun K41 hK41 => ?_
          refine c_region ?_
          refine s_op (o_lss (a := (i : Int)) (b := (m : Int)) e36_32 e36_31 ?_)
          refine s_nil ?_
          refine t_norm (hK41 _ _ ?_)
          refine wp_seq_k fun K42 hK42 => ?_
          refine c_cond rfl (fun h43 => ?_) (fun h43 => ?_)
          · -- (i : Int) < (m : Int)
            refine wp_skip ?_
            refine t_norm (hK42 _ _ ?_)
            refine wp_seq_k fun K44 hK44 => ?_
            refine wp_block ?_
            refine wp_seq_k fun K45 hK45 => ?_
            refine c_region ?_
            refine s_op (o_move (v := (.int .i64 (i : Int))) e36_32 ?_)
            refine s_op (o_assign (v := (.int .i64 (i : Int))) rfl ?_)
            refine s_nil ?_
            refine t_norm (hK45 _ _ ?_)
            refine c_region ?_
            refine s_op (o_move (v := (.int .i64 y)) e36_7 ?_)
            refine s_op (o_shl (c := y * 256) rfl rfl (by omega) (shl_lit (by omega) (by omega) rfl) ?_)
            refine s_op (o_move (v := (S s)) e36_0 ?_)
            refine s_op (o_move (v := (.int .i64 (i : Int))) rfl ?_)
            obtain ⟨c46, hx47⟩ : ∃ x_, s[((i : Int)).toNat]? = some x_ := get_some (by omega)
            have c46_lt := c46.toNat_lt
            refine s_op (o_sidx Tryd.underlying9 rfl rfl (by omega) hx47 ?_)
            refine s_op (o_conv Tryd.underlying5 Tryd.underlying3 rfl (w_u8 _) ?_)
            refine s_op (o_or (c := y * 256 + (c46.toNat : Int)) rfl rfl (or8 (by omega) (by omega) _) ?_)
            refine s_op (o_assign (v := (.int .i64 (y * 256 + (c46.toNat : Int)))) rfl ?_)
            refine s_nil ?_
            refine b_norm ?_
            refine t_norm (hK44 _ _ ?_)
            refine c_region ?_
            refine s_op (o_add (a := (i : Int)) (b := 1) e36_32 rfl (w64 (by omega) (by omega)) ?_)
            refine s_op (o_move (v := (.int .i64 ((i : Int) + 1))) rfl ?_)
            refine s_nil ?_
            refine t_norm ⟨m - (i + 1), _, rfl, ?_, ?_⟩
            · omega
            · exact ⟨(i + 1), (y * 256 + (c46.toNat : Int)), rfl, hH39, (by omega), (by rw [take_succ_of (by simpa using hx47), beVal_snoc, ← hy]), e36_0, e36_1, e36_4, e36_5, e36_6, rfl, e36_29, e36_31, rfl⟩
          · -- not: (i : Int) < (m : Int)
            refine wp_exit ?_
            refine t_exit (t_exit (x_in (?_)))
            refine t_norm (hK34 _ _ ?_)
            refine wp_seq_k fun K48 hK48 => ?_
            refine Rest.region mixed (by kernel_rfl) ?_
            have hH49 : Has E { w38 with drawn := w38.drawn + 1 } [R] := Has0.drew hH39 _
            refine Rest.phaseA (fun w_ => Has E w_ []) 0 5 5 rfl (by decide) (by kernel_rfl) ?_
            refine a_op 0 rfl (by kernel_rfl) (fun w_ h_ => o_move (v := (.int .i64 y)) e36_7 ⟨rfl, rfl⟩) ?_
            refine a_op 1 rfl (by kernel_rfl) (fun w_ h_ => o_move (v := (S s)) e36_0 ⟨rfl, rfl⟩) ?_
            refine a_op 2 rfl (by kernel_rfl) (fun w_ h_ => o_move (v := (.int .i64 (m : Int))) e36_1 ⟨rfl, rfl⟩) ?_
            refine a_op 3 rfl (by kernel_rfl) (fun w_ h_ => o_ssl_l Tryd.underlying9 rfl rfl (by omega) (by omega) ⟨rfl, rfl⟩) ?_
            refine a_op 4 rfl (by kernel_rfl) (fun w_ h_ => o_assign (v := (.int .i64 y)) rfl ⟨rfl, rfl⟩) ?_
            have hH50 : Has E { w38 with drawn := w38.drawn + 1 } [] := hH49.first 0 rfl
            refine a_done (by kernel_rfl) hH50 ?_
            refine r_op 5 rfl (by kernel_rfl) (o_assign (v := (S (s.drop ((m : Int)).toNat))) rfl ?_)
            refine r_op 6 rfl (by kernel_rfl) (o_assign (v := (.bool true)) rfl ?_)
            refine Rest.done (by kernel_rfl) ?_
            refine t_norm (hK48 _ _ ?_)
            refine wp_ret ?_
            refine c_ret3 Tryd.results49  (v := (.int .i64 y)) rfl (x := (S (s.drop ((m : Int)).toNat))) rfl (y := (.bool true)) rfl ?_
            have e : i = m := by omega
            rw [e] at hy
            exact ⟨by rw [takeS_yes (by omega) (by omega) (by omega) (.inl (by omega)), hy]; rfl, hH49⟩
end Go.Q
namespace Go.Q
open Go.Proofs
set_option linter.unusedVariables false
set_option maxRecDepth 100000
attribute [local irreducible] wpList OK Code.wp
set_option maxHeartbeats 4000000 in
theorem aset_yes {E w : World} {R sg : List Hp} {ab db pb k : Nat} {fr n : Int} {p : Pw} {la : List Bs} {lo : List (Int × Bs)} (hH : Has E w [sg, [Hp.one pb (.cells #[(.bool p.off), (.bool p.armed), (.int .i64 p.left), (.int .i64 p.uses)] 104 (0, 0))], [Hp.one ab (.cells #[(.pointer (some ⟨db, 0, none⟩)), (.int .i64 fr), (.int .i64 n)] 65 (0, 0))], R]) (hd : DevAt pb sg db la lo) (hp : Calm p k) (hk : k ≤ 100000) (h64 : Full64 la) (hlo : LoOk lo la.length) (hfr : 0 ≤ fr) (hn : 1 ≤ n) (hfn : fr + n ≤ la.length) (hla : la.length ≤ 4096) {at_ : Int} {v : Value} {data : List Bs} (hv : Sl R 1 v data.length (data.map sV)) (hdn : data.length ≤ 1000) (hdl : data.flatten.length ≤ 1000000) (hat : 0 ≤ at_ ∧ at_ ≤ 4611686018427387904) (hsz : (data.flatten.length : Int) ≤ n * 64) :
    Calls Tryd.prog 31 #[(.pointer (some ⟨ab, 0, none⟩)), (.int .i64 at_), v] w fun e w' => ∃ sg' p', e = .returned (.int .i64 0) ∧ DevAt pb sg' db la (setP la (allP fr (n * 64) (at_ % (n * 64)) (data.flatten.length : Int)) lo data.flatten) ∧ LoOk (setP la (allP fr (n * 64) (at_ % (n * 64)) (data.flatten.length : Int)) lo data.flatten) la.length ∧ Calm p' (k + data.flatten.length) ∧ Has E w' [sg', [Hp.one pb (.cells #[(.bool p'.off), (.bool p'.armed), (.int .i64 p'.left), (.int .i64 p'.uses)] 104 (0, 0))], [Hp.one ab (.cells #[(.pointer (some ⟨db, 0, none⟩)), (.int .i64 fr), (.int .i64 n)] 65 (0, 0))], R] := by
  obtain ⟨hat1, hat2⟩ := hat
  refine c_enter (args := [(.pointer (some ⟨ab, 0, none⟩)), (.int .i64 at_), v]) Tryd.func31 rfl Tryd.ntmps31 (by simp) ?_
  refine wp_seq_k fun K1 hK1 => ?_
  refine c_region ?_
  refine s_op (o_assign (v := (.int .i64 0)) rfl ?_)
  refine s_nil ?_
  refine t_norm (hK1 _ _ ?_)
  refine wp_seq_k fun K2 hK2 => ?_
  refine c_region ?_
  refine s_op (o_assign (v := (.int .i64 0)) rfl ?_)
  refine s_nil ?_
  refine t_norm (hK2 _ _ ?_)
  refine wp_seq_k fun K3 hK3 => ?_
  refine wp_seq_k fun K4 hK4 => ?_
  refine c_region ?_
  refine s_op (o_move (v := v) rfl ?_)
  refine s_op (o_lenS Tryd.underlying32 rfl hv ?_)
  refine s_op (o_move (v := (.int .i64 0)) rfl ?_)
  refine s_nil ?_
  refine t_norm (hK4 _ _ ?_)
  refine wp_block ?_
  let I6 : Nat → (Nat → Value) → World → Prop := fun n__ r__ w__ => ∃ (i : Nat) (z : Int), n__ = data.length - i ∧ Has E w__ [sg, [Hp.one pb (.cells #[(.bool p.off), (.bool p.armed), (.int .i64 p.left), (.int .i64 p.uses)] 104 (0, 0))], [Hp.one ab (.cells #[(.pointer (some ⟨db, 0, none⟩)), (.int .i64 fr), (.int .i64 n)] 65 (0, 0))], R] ∧ (i ≤ data.length) ∧ (z = ((data.take i).flatten.length : Int)) ∧ r__ 0 = (.pointer (some ⟨ab, 0, none⟩)) ∧ r__ 1 = (.int .i64 at_) ∧ r__ 2 = v ∧ r__ 6 = (.int .i64 0) ∧ r__ 7 = (.int .i64 z) ∧ r__ 17 = v ∧ r__ 18 = (.int .i64 ((data.length : Nat) : Int)) ∧ r__ 19 = (.int .i64 (i : Int))
  refine c_loop I6 _ ⟨0, 0, rfl, hH, Nat.zero_le _, (by simp), rfl, rfl, rfl, rfl, rfl, rfl, rfl, rfl⟩ ?_
  rintro n_ r9 w7 ⟨i, z, rfl, hH8, hi, hz, e5_0, e5_1, e5_2, e5_6, e5_7, e5_17, e5_18, e5_19⟩
  have hzl := flat_take_le data i
  refine wp_seq_k fun K10 hK10 => ?_
  refine c_region ?_
  refine s_op (o_lss (a := (i : Int)) (b := ((data.length : Nat) : Int)) e5_19 e5_18 ?_)
  refine s_nil ?_
  refine t_norm (hK10 _ _ ?_)
  refine wp_seq_k fun K11 hK11 => ?_
  refine c_cond rfl (fun h12 => ?_) (fun h12 => ?_)
  · -- (i : Int) < ((data.length : Nat) : Int)
    refine wp_skip ?_
    refine t_norm (hK11 _ _ ?_)
    refine wp_seq_k fun K13 hK13 => ?_
    refine wp_block ?_
    refine wp_seq_k fun K14 hK14 => ?_
    refine c_region ?_
    obtain ⟨x18, hx19⟩ : ∃ x_, data[((i : Int)).toNat]? = some x_ := get_some (by omega)
    refine s_op (o_index1 Tryd.underlying32 ti9 e5_17 hv e5_19 (by omega) hx19 fun b15 o16 hc17 => ?_)
    refine s_op (o_load1 (v := (S x18)) Tryd.underlying9 rfl rfl hH8 (seg_sub 3 rfl) hc17 ?_)
    refine s_op (o_assign (v := (S x18)) rfl ?_)
    refine s_nil ?_
    refine t_norm (hK14 _ _ ?_)
    refine c_region ?_
    refine s_op (o_move (v := (.int .i64 z)) e5_7 ?_)
    refine s_op (o_move (v := (S x18)) rfl ?_)
    refine s_op (o_slen Tryd.underlying9 rfl ?_)
    refine s_op (o_buildSlice (ps := #[(0, (.int .i64 z)), (1, (.int .i64 (x18.length : Int)))]) (cells := #[(.int .i64 z), (.int .i64 (x18.length : Int))]) Tryd.underlying56 ti3 (by decide) (parts2 rfl rfl) (by kernel_rfl) hH8 fun b20 w21 hH22 => ?_)
    have hxl_ := flat_take_le data (i + 1)
    rw [flatten_take_succ (show data[i]? = some _ from hx19), List.length_append] at hxl_
    refine s_op (o_callf (vs := #[(.slice (some ⟨b20, 0, none⟩) 2 2)]) ca65 rfl (args1 rfl) ((by have h_ := sum_c hH22.all (l := [z, (x18.length : Int)]) ((sl_lit (f := iV) (l := [z, (x18.length : Int)]) rfl rfl (by simp)).mono (seg_sub 0 rfl)); rwa [sum2 ⟨by omega, by omega⟩ ⟨by omega, by omega⟩] at h_)) ?_)
    rintro _ w25 ⟨rfl, hX23⟩
    refine ⟨_, rfl, ?_⟩
    have hH24 := hX23.of_all
    refine s_op (o_assign (v := (.int .i64 (z + (x18.length : Int)))) rfl ?_)
    refine s_nil ?_
    refine b_norm ?_
    refine t_norm (hK13 _ _ ?_)
    refine c_region ?_
    refine s_op (o_add (a := (i : Int)) (b := 1) e5_19 rfl (w64 (by omega) (by omega)) ?_)
    refine s_op (o_move (v := (.int .i64 ((i : Int) + 1))) rfl ?_)
    refine s_nil ?_
    have hH26 : Has E w25 [sg, [Hp.one pb (.cells #[(.bool p.off), (.bool p.armed), (.int .i64 p.left), (.int .i64 p.uses)] 104 (0, 0))], [Hp.one ab (.cells #[(.pointer (some ⟨db, 0, none⟩)), (.int .i64 fr), (.int .i64 n)] 65 (0, 0))], R] := ((((hH24.front 4 rfl).front 4 rfl).front 4 rfl).front 4 rfl).first 4 rfl
    refine t_norm ⟨data.length - (i + 1), _, rfl, ?_, ?_⟩
    · omega
    · exact ⟨(i + 1), (z + (x18.length : Int)), rfl, hH26, (by omega), (by rw [flatten_take_succ (show data[i]? = some _ from hx19), List.length_append]; omega), e5_0, e5_1, e5_2, e5_6, rfl, e5_17, e5_18, rfl⟩
  · -- not: (i : Int) < ((data.length : Nat) : Int)
    refine wp_exit ?_
    refine t_exit (t_exit (x_in (?_)))
    refine t_norm (hK3 _ _ ?_)
    refine wp_seq_k fun K27 hK27 => ?_
    refine wp_seq_k fun K28 hK28 => ?_
    refine c_region ?_
    refine s_op (o_move (v := (.pointer (some ⟨ab, 0, none⟩))) e5_0 ?_)
    refine s_op (o_move (v := (.int .i64 at_)) e5_1 ?_)
    refine s_op (o_move (v := (.int .i64 z)) e5_7 ?_)
    refine s_op (o_callf (vs := #[(.pointer (some ⟨ab, 0, none⟩)), (.int .i64 at_), (.int .i64 z)]) ca66 rfl (args3 rfl rfl rfl) (amay_c (hH8.front 2 rfl).all1 ⟨by omega, by omega⟩ at_ z) ?_)
    rintro _ w31 ⟨rfl, hX29⟩
    refine ⟨_, rfl, ?_⟩
    have hH30 : Has E w31 [[Hp.one ab (.cells #[(.pointer (some ⟨db, 0, none⟩)), (.int .i64 fr), (.int .i64 n)] 65 (0, 0))], sg, [Hp.one pb (.cells #[(.bool p.off), (.bool p.armed), (.int .i64 p.left), (.int .i64 p.uses)] 104 (0, 0))], R] := hX29.of_all1
    refine s_op (o_not2 (b := decide (0 ≤ at_ ∧ at_ ≤ 4611686018427387904 ∧ 0 ≤ z ∧ z ≤ n * 64)) (b' := decide (¬ (0 ≤ at_ ∧ at_ ≤ 4611686018427387904 ∧ 0 ≤ z ∧ z ≤ n * 64))) rfl not_dec ?_)
    refine s_nil ?_
    refine t_norm (hK28 _ _ ?_)
    refine c_cond rfl (fun h32 => ?_) (fun h32 => ?_)
    · -- ¬ (0 ≤ at_ ∧ at_ ≤ 4611686018427387904 ∧ 0 ≤ z ∧ z ≤ n * 64)
      have hzz : z = (data.flatten.length : Int) := by rw [hz, show i = data.length by omega, List.take_of_length_le (Nat.le_refl _)]
      exact absurd (show _ ∧ _ ∧ _ ∧ _ from ⟨by omega, by omega, by omega, by omega⟩) h32
    · -- not: ¬ (0 ≤ at_ ∧ at_ ≤ 4611686018427387904 ∧ 0 ≤ z ∧ z ≤ n * 64)
      have hzz : z = (data.flatten.length : Int) := by rw [hz, show i = data.length by omega, List.take_of_length_le (Nat.le_refl _)]
      refine wp_skip ?_
      refine t_norm (hK27 _ _ ?_)
      refine wp_seq_k fun K33 hK33 => ?_
      refine wp_seq_k fun K34 hK34 => ?_
      refine c_region ?_
      refine s_op (o_move (v := (.pointer (some ⟨ab, 0, none⟩))) e5_0 ?_)
      refine s_op (o_nilCheck rfl ?_)
      refine s_op (o_fieldAddr (k := 0) (fun _ => by kernel_rfl) rfl ?_)
      refine s_op (o_load1 (v := (.pointer (some ⟨db, 0, none⟩))) Tryd.underlying50 rfl rfl hH30 (seg_sub 0 rfl) (CellsAt.one rfl) ?_)
      refine s_op (o_callf (vs := #[(.pointer (some ⟨db, 0, none⟩))]) ca67 rfl (args1 rfl) (don_d (p := p) (la := la) (lo := lo) ((hH30.front 2 rfl).front 2 rfl).all2 hd ) ?_)
      rintro _ w37 ⟨rfl, hX35⟩
      refine ⟨_, rfl, ?_⟩
      have hH36 : Has E w37 [sg, [Hp.one pb (.cells #[(.bool p.off), (.bool p.armed), (.int .i64 p.left), (.int .i64 p.uses)] 104 (0, 0))], [Hp.one ab (.cells #[(.pointer (some ⟨db, 0, none⟩)), (.int .i64 fr), (.int .i64 n)] 65 (0, 0))], R] := hX35.of_all2
      refine s_op (o_not rfl ?_)
      refine s_nil ?_
      refine t_norm (hK34 _ _ ?_)
      refine c_condb rfl (fun h38 => ?_) (fun h38 => ?_)
      · -- !(!p.off)
        have h38_n : (!p.off) = false := by simpa using h38
        have h38_n_n : p.off = true := by simpa using h38_n
        exact absurd h38 (by rw [hp.off]; decide)
      · -- not: !(!p.off)
        have h38_n : (!p.off) = true := by simpa using h38
        have h38_n_n : p.off = false := by simpa using h38_n
        refine wp_skip ?_
        refine t_norm (hK33 _ _ ?_)
        refine wp_seq_k fun K39 hK39 => ?_
        refine c_region ?_
        refine s_op (o_move (v := v) e5_2 ?_)
        refine s_op (o_callf (vs := #[v, (S ([] : List UInt8))]) ca68 rfl (args2 rfl rfl) (join_c hH36.all (l := data) (hv.mono (seg_sub 3 rfl)) (by first | omega | simp) (by first | omega | (simp only [List.flatten_cons, List.flatten_nil, List.length_append, List.length_take, List.length_drop, List.length_nil]; omega))) ?_)
        rintro _ w42 ⟨rfl, hX40⟩
        refine ⟨_, rfl, ?_⟩
        have hH41 := hX40.of_all
        refine s_op (o_assign (v := (S data.flatten)) rfl ?_)
        refine s_nil ?_
        refine t_norm (hK39 _ _ ?_)
        refine wp_seq_k fun K43 hK43 => ?_
        refine wp_seq_k fun K44 hK44 => ?_
        refine c_region ?_
        refine s_op (o_move (v := (.pointer (some ⟨ab, 0, none⟩))) e5_0 ?_)
        refine s_op (o_move (v := (.int .i64 at_)) e5_1 ?_)
        refine s_op (o_move (v := (.int .i64 z)) e5_7 ?_)
        refine s_op (o_callf (vs := #[(.pointer (some ⟨ab, 0, none⟩)), (.int .i64 at_), (.int .i64 z)]) ca69 rfl (args3 rfl rfl rfl) (pieces_c (hH41.front 2 rfl).all1 ⟨by omega, by omega⟩ ⟨by omega, by omega⟩ (at_ := at_) (size := z) ⟨by omega, by omega⟩ ⟨by omega, by omega⟩) ?_)
        rintro _ w50 ⟨v45, s46, rfl, ho47, hX48⟩
        refine ⟨_, rfl, ?_⟩
        have hH49 : Has E w50 [s46, [Hp.one ab (.cells #[(.pointer (some ⟨db, 0, none⟩)), (.int .i64 fr), (.int .i64 n)] 65 (0, 0))], sg, [Hp.one pb (.cells #[(.bool p.off), (.bool p.armed), (.int .i64 p.left), (.int .i64 p.uses)] 104 (0, 0))], R] := hX48.of_all2
        refine s_op (o_lenS Tryd.underlying113 rfl ho47.sl ?_)
        refine s_op (o_move (v := (.int .i64 0)) rfl ?_)
        refine s_nil ?_
        refine t_norm (hK44 _ _ ?_)
        refine wp_block ?_
        have hpl := pieces_count (fr := fr) (L := n * 64) z.toNat (at_ % (n * 64)) z
        have hpk : ∀ p ∈ (allP fr (n * 64) (at_ % (n * 64)) z), PcOk fr n p := pieces_ok (fr := fr) (n := n) (by omega) z.toNat (at_ % (n * 64)) z (Int.emod_nonneg _ (by omega)) (Int.emod_lt_of_pos _ (by omega))
        have hpe : (allP fr (n * 64) (at_ % (n * 64)) z).length ≤ z.toNat := hpl
        have hpn : plen (allP fr (n * 64) (at_ % (n * 64)) z) = z := pieces_len (by omega) _ _ _ (Int.emod_nonneg _ (by omega)) (by omega) (Nat.le_refl _)
        let I52 : Nat → (Nat → Value) → World → Prop := fun n__ r__ w__ => ∃ (j : Nat) (rest : Bs) (lo2 : List (Int × Bs)) (p2 : Pw) (sg2 : List Hp), n__ = (allP fr (n * 64) (at_ % (n * 64)) z).length - j ∧ Has E w__ [sg2, [Hp.one pb (.cells #[(.bool p2.off), (.bool p2.armed), (.int .i64 p2.left), (.int .i64 p2.uses)] 104 (0, 0))], s46, [Hp.one ab (.cells #[(.pointer (some ⟨db, 0, none⟩)), (.int .i64 fr), (.int .i64 n)] 65 (0, 0))], R] ∧ (j ≤ (allP fr (n * 64) (at_ % (n * 64)) z).length) ∧ (DevAt pb sg2 db la lo2) ∧ (LoOk lo2 la.length) ∧ (Calm p2 (k + j)) ∧ ((rest.length : Int) = plen ((allP fr (n * 64) (at_ % (n * 64)) z).drop j)) ∧ (setP la (allP fr (n * 64) (at_ % (n * 64)) z) lo data.flatten = setP la ((allP fr (n * 64) (at_ % (n * 64)) z).drop j) lo2 rest) ∧ r__ 0 = (.pointer (some ⟨ab, 0, none⟩)) ∧ r__ 1 = (.int .i64 at_) ∧ r__ 2 = v ∧ r__ 7 = (.int .i64 z) ∧ r__ 10 = (S rest) ∧ r__ 17 = v ∧ r__ 18 = (.int .i64 ((data.length : Nat) : Int)) ∧ r__ 19 = (.int .i64 (i : Int)) ∧ r__ 20 = (.bool (decide ((i : Int) < ((data.length : Nat) : Int)))) ∧ r__ 33 = (.bool (decide (¬ (0 ≤ at_ ∧ at_ ≤ 4611686018427387904 ∧ 0 ≤ z ∧ z ≤ n * 64)))) ∧ r__ 39 = (.bool (!(!p.off))) ∧ r__ 45 = v45 ∧ r__ 46 = (.int .i64 (((allP fr (n * 64) (at_ % (n * 64)) z).length : Nat) : Int)) ∧ r__ 47 = (.int .i64 (j : Int))
        have hH53 : Has E w50 [sg, [Hp.one pb (.cells #[(.bool p.off), (.bool p.armed), (.int .i64 p.left), (.int .i64 p.uses)] 104 (0, 0))], s46, [Hp.one ab (.cells #[(.pointer (some ⟨db, 0, none⟩)), (.int .i64 fr), (.int .i64 n)] 65 (0, 0))], R] := (((((hH49.front 4 rfl).front 2 rfl).front 2 rfl).front 4 rfl).front 4 rfl).first 5 rfl
        refine c_loop I52 _ ⟨0, data.flatten, lo, p, sg, rfl, hH53, Nat.zero_le _, hd, hlo, hp, (by rw [List.drop_zero, hpn]; omega), rfl, e5_0, e5_1, e5_2, e5_7, rfl, e5_17, e5_18, e5_19, rfl, rfl, rfl, rfl, rfl, rfl⟩ ?_
        rintro n_ r56 w54 ⟨j, rest, lo2, p2, sg2, rfl, hH55, hj, hd2, hlo2, hp2, hrest, hset, e51_0, e51_1, e51_2, e51_7, e51_10, e51_17, e51_18, e51_19, e51_20, e51_33, e51_39, e51_45, e51_46, e51_47⟩
        refine wp_seq_k fun K57 hK57 => ?_
        refine c_region ?_
        refine s_op (o_lss (a := (j : Int)) (b := (((allP fr (n * 64) (at_ % (n * 64)) z).length : Nat) : Int)) e51_47 e51_46 ?_)
        refine s_nil ?_
        refine t_norm (hK57 _ _ ?_)
        refine wp_seq_k fun K58 hK58 => ?_
        refine c_cond rfl (fun h59 => ?_) (fun h59 => ?_)
        · -- (j : Int) < (((allP fr (n * 64) (at_ % (n * 64)) z).length : Nat) : Int)
          refine wp_skip ?_
          refine t_norm (hK58 _ _ ?_)
          refine wp_seq_k fun K60 hK60 => ?_
          refine wp_block ?_
          refine wp_seq_k fun K61 hK61 => ?_
          refine c_region ?_
          obtain ⟨x65, hx66⟩ : ∃ x_, (allP fr (n * 64) (at_ % (n * 64)) z)[((j : Int)).toNat]? = some x_ := get_some (by omega)
          refine s_op (o_indexF pcC_len Tryd.underlying113 ti116 e51_45 ho47.sl rfl e51_47 (by omega) hx66 fun b62 o63 hc64 => ?_)
          refine s_op (o_loadN (cs := [(.int .i64 x65.sec), (.int .i64 x65.frm), (.int .i64 x65.upto)]) Tryd.underlying116 rfl ti116 rfl hH55 (seg_sub 2 rfl) hc64 ?_)
          refine s_op (o_alloc (cs := #[(.int .i64 0), (.int .i64 0), (.int .i64 0)]) ti116 rfl hH55 fun b67 w68 hH69 => ?_)
          refine s_eff (o_storeN (vs := [(.int .i64 x65.sec), (.int .i64 x65.frm), (.int .i64 x65.upto)]) (c' := #[(.int .i64 x65.sec), (.int .i64 x65.frm), (.int .i64 x65.upto)]) ti116 rfl rfl rfl rfl (by intro u hu; simp only [List.mem_cons, List.not_mem_nil, or_false] at hu; rcases hu with rfl | rfl | rfl <;> first | rfl) (by simp) (by kernel_rfl) (hH69.front 0 rfl) fun w70 hH71 => ?_)
          refine s_nil ?_
          refine t_norm (hK61 _ _ ?_)
          refine wp_seq_k fun K72 hK72 => ?_
          refine Rest.region mixed (by kernel_rfl) ?_
          have hH73 : Has E { w70 with drawn := w70.drawn + 1 } [[Hp.one b67 (.cells #[(.int .i64 x65.sec), (.int .i64 x65.frm), (.int .i64 x65.upto)] 116 (0, 0))], sg2, [Hp.one pb (.cells #[(.bool p2.off), (.bool p2.armed), (.int .i64 p2.left), (.int .i64 p2.uses)] 104 (0, 0))], s46, [Hp.one ab (.cells #[(.pointer (some ⟨db, 0, none⟩)), (.int .i64 fr), (.int .i64 n)] 65 (0, 0))], R] := Has0.drew hH71 _
          refine Rest.phaseA (fun w_ => Has E w_ [[Hp.one b67 (.cells #[(.int .i64 x65.sec), (.int .i64 x65.frm), (.int .i64 x65.upto)] 116 (0, 0))], [Hp.one ab (.cells #[(.pointer (some ⟨db, 0, none⟩)), (.int .i64 fr), (.int .i64 n)] 65 (0, 0))]]) 0 6 6 rfl (by decide) (by kernel_rfl) ?_
          refine a_op 0 rfl (by kernel_rfl) (fun w_ h_ => o_move (v := (.pointer (some ⟨ab, 0, none⟩))) e51_0 ⟨rfl, rfl⟩) ?_
          refine a_op 1 rfl (by kernel_rfl) (fun w_ h_ => o_nilCheck rfl ⟨rfl, rfl⟩) ?_
          refine a_op 2 rfl (by kernel_rfl) (fun w_ h_ => o_fieldAddr (k := 0) (fun _ => by kernel_rfl) rfl ⟨rfl, rfl⟩) ?_
          refine a_op 3 rfl (by kernel_rfl) (fun w_ h_ => o_load1 (v := (.pointer (some ⟨db, 0, none⟩))) Tryd.underlying50 rfl rfl h_ (seg_sub 1 rfl) (CellsAt.one rfl) ⟨rfl, rfl⟩) ?_
          refine a_op 4 rfl (by kernel_rfl) (fun w_ h_ => o_fieldAddr (k := 0) (fun _ => by kernel_rfl) rfl ⟨rfl, rfl⟩) ?_
          refine a_op 5 rfl (by kernel_rfl) (fun w_ h_ => o_load1 (v := (.int .i64 x65.sec)) Tryd.underlying3 rfl rfl h_ (seg_sub 0 rfl) (CellsAt.one rfl) ⟨rfl, rfl⟩) ?_
          have hH74 : Has E { w70 with drawn := w70.drawn + 1 } [[Hp.one b67 (.cells #[(.int .i64 x65.sec), (.int .i64 x65.frm), (.int .i64 x65.upto)] 116 (0, 0))], [Hp.one ab (.cells #[(.pointer (some ⟨db, 0, none⟩)), (.int .i64 fr), (.int .i64 n)] 65 (0, 0))]] := ((hH73.front 4 rfl).front 1 rfl).first 2 rfl
          refine a_done (by kernel_rfl) hH74 ?_
          refine r_op 6 rfl (by kernel_rfl) (o_callf (vs := #[(.pointer (some ⟨db, 0, none⟩)), (.int .i64 x65.sec)]) ca34 rfl (args2 rfl rfl) (read_d (p := p2) (la := la) (lo := lo2) ((hH73.front 2 rfl).front 2 rfl).all2 hd2 x65.sec) ?_)
          rintro _ w77 ⟨rfl, hX75⟩
          refine ⟨_, rfl, ?_⟩
          have hH76 : Has E w77 [sg2, [Hp.one pb (.cells #[(.bool p2.off), (.bool p2.armed), (.int .i64 p2.left), (.int .i64 p2.uses)] 104 (0, 0))], [Hp.one b67 (.cells #[(.int .i64 x65.sec), (.int .i64 x65.frm), (.int .i64 x65.upto)] 116 (0, 0))], s46, [Hp.one ab (.cells #[(.pointer (some ⟨db, 0, none⟩)), (.int .i64 fr), (.int .i64 n)] 65 (0, 0))], R] := hX75.of_all2
          refine r_op 7 rfl (by kernel_rfl) (o_move (v := (.tuple #[(S (readS p2 la lo2 x65.sec)), (.int .i64 (readE p2 la x65.sec))])) rfl ?_)
          refine Rest.phaseA (fun w_ => Has E w_ []) 8 11 3 rfl (by decide) (by kernel_rfl) ?_
          refine a_op 8 rfl (by kernel_rfl) (fun w_ h_ => o_extract (v := (S (readS p2 la lo2 x65.sec))) rfl rfl ⟨rfl, rfl⟩) ?_
          refine a_op 9 rfl (by kernel_rfl) (fun w_ h_ => o_extract (v := (.int .i64 (readE p2 la x65.sec))) rfl rfl ⟨rfl, rfl⟩) ?_
          refine a_op 10 rfl (by kernel_rfl) (fun w_ h_ => o_assign (v := (S (readS p2 la lo2 x65.sec))) rfl ⟨rfl, rfl⟩) ?_
          have hH78 : Has E w77 [] := hH76.first 0 rfl
          refine a_done (by kernel_rfl) hH78 ?_
          refine r_op 11 rfl (by kernel_rfl) (o_assign (v := (.int .i64 (readE p2 la x65.sec))) rfl ?_)
          refine Rest.done (by kernel_rfl) ?_
          refine t_norm (hK72 _ _ ?_)
          refine wp_seq_k fun K79 hK79 => ?_
          refine wp_seq_k fun K80 hK80 => ?_
          refine c_region ?_
          refine s_op (o_move (v := (.int .i64 (readE p2 la x65.sec))) rfl ?_)
          refine s_op (o_neq (a := readE p2 la x65.sec) (b := 0) rfl rfl ?_)
          refine s_nil ?_
          refine t_norm (hK80 _ _ ?_)
          refine c_cond rfl (fun h81 => ?_) (fun h81 => ?_)
          · -- readE p2 la x65.sec ≠ 0
            obtain ⟨hq1, hq2, hq3, hq4, hq5⟩ := hpk x65 (List.mem_of_getElem? hx66)
            have hrd_ := read_now hp2 (la := la) (lo := lo2) (n := x65.sec) ⟨by omega, by omega⟩
            exact absurd hrd_.2 h81
          · -- not: readE p2 la x65.sec ≠ 0
            obtain ⟨hq1, hq2, hq3, hq4, hq5⟩ := hpk x65 (List.mem_of_getElem? hx66)
            have hrd_ := read_now hp2 (la := la) (lo := lo2) (n := x65.sec) ⟨by omega, by omega⟩
            have hrl_ : (readS p2 la lo2 x65.sec).length = 64 := by rw [hrd_.1]; exact nowAt_len h64 hlo2 (by omega)
            obtain ⟨hpd_, hpz_⟩ := plen_drop hpk (show (allP fr (n * 64) (at_ % (n * 64)) z)[j]? = some _ from hx66)
            refine wp_skip ?_
            refine t_norm (hK79 _ _ ?_)
            refine wp_seq_k fun K82 hK82 => ?_
            refine c_region ?_
            refine s_op (o_fieldAddr (k := 2) (fun _ => by kernel_rfl) rfl ?_)
            refine s_op (o_load1 (v := (.int .i64 x65.upto)) Tryd.underlying3 rfl rfl hH76 (seg_sub 2 rfl) (CellsAt.one rfl) ?_)
            refine s_op (o_fieldAddr (k := 1) (fun _ => by kernel_rfl) rfl ?_)
            refine s_op (o_load1 (v := (.int .i64 x65.frm)) Tryd.underlying3 rfl rfl hH76 (seg_sub 2 rfl) (CellsAt.one rfl) ?_)
            refine s_op (o_sub (a := x65.upto) (b := x65.frm) rfl rfl (w64 (by omega) (by omega)) ?_)
            refine s_op (o_assign (v := (.int .i64 (x65.upto - x65.frm))) rfl ?_)
            refine s_nil ?_
            refine t_norm (hK82 _ _ ?_)
            refine wp_seq_k fun K83 hK83 => ?_
            refine wp_seq_k fun K84 hK84 => ?_
            refine Rest.region mixed (by kernel_rfl) ?_
            have hH85 : Has E { w77 with drawn := w77.drawn + 1 } [sg2, [Hp.one pb (.cells #[(.bool p2.off), (.bool p2.armed), (.int .i64 p2.left), (.int .i64 p2.uses)] 104 (0, 0))], [Hp.one b67 (.cells #[(.int .i64 x65.sec), (.int .i64 x65.frm), (.int .i64 x65.upto)] 116 (0, 0))], s46, [Hp.one ab (.cells #[(.pointer (some ⟨db, 0, none⟩)), (.int .i64 fr), (.int .i64 n)] 65 (0, 0))], R] := Has0.drew hH76 _
            refine Rest.phaseA (fun w_ => Has E w_ [[Hp.one b67 (.cells #[(.int .i64 x65.sec), (.int .i64 x65.frm), (.int .i64 x65.upto)] 116 (0, 0))], [Hp.one ab (.cells #[(.pointer (some ⟨db, 0, none⟩)), (.int .i64 fr), (.int .i64 n)] 65 (0, 0))]]) 0 18 18 rfl (by decide) (by kernel_rfl) ?_
            refine a_op 0 rfl (by kernel_rfl) (fun w_ h_ => o_move (v := (.pointer (some ⟨ab, 0, none⟩))) e51_0 ⟨rfl, rfl⟩) ?_
            refine a_op 1 rfl (by kernel_rfl) (fun w_ h_ => o_nilCheck rfl ⟨rfl, rfl⟩) ?_
            refine a_op 2 rfl (by kernel_rfl) (fun w_ h_ => o_fieldAddr (k := 0) (fun _ => by kernel_rfl) rfl ⟨rfl, rfl⟩) ?_
            refine a_op 3 rfl (by kernel_rfl) (fun w_ h_ => o_load1 (v := (.pointer (some ⟨db, 0, none⟩))) Tryd.underlying50 rfl rfl h_ (seg_sub 1 rfl) (CellsAt.one rfl) ⟨rfl, rfl⟩) ?_
            refine a_op 4 rfl (by kernel_rfl) (fun w_ h_ => o_fieldAddr (k := 0) (fun _ => by kernel_rfl) rfl ⟨rfl, rfl⟩) ?_
            refine a_op 5 rfl (by kernel_rfl) (fun w_ h_ => o_load1 (v := (.int .i64 x65.sec)) Tryd.underlying3 rfl rfl h_ (seg_sub 0 rfl) (CellsAt.one rfl) ⟨rfl, rfl⟩) ?_
            refine a_op 6 rfl (by kernel_rfl) (fun w_ h_ => o_move (v := (S (readS p2 la lo2 x65.sec))) rfl ⟨rfl, rfl⟩) ?_
            refine a_op 7 rfl (by kernel_rfl) (fun w_ h_ => o_fieldAddr (k := 1) (fun _ => by kernel_rfl) rfl ⟨rfl, rfl⟩) ?_
            refine a_op 8 rfl (by kernel_rfl) (fun w_ h_ => o_load1 (v := (.int .i64 x65.frm)) Tryd.underlying3 rfl rfl h_ (seg_sub 0 rfl) (CellsAt.one rfl) ⟨rfl, rfl⟩) ?_
            refine a_op 9 rfl (by kernel_rfl) (fun w_ h_ => o_ssl_h Tryd.underlying9 rfl rfl (by omega) (by omega) ⟨rfl, rfl⟩) ?_
            refine a_op 10 rfl (by kernel_rfl) (fun w_ h_ => o_move (v := (S rest)) e51_10 ⟨rfl, rfl⟩) ?_
            refine a_op 11 rfl (by kernel_rfl) (fun w_ h_ => o_move (v := (.int .i64 (x65.upto - x65.frm))) rfl ⟨rfl, rfl⟩) ?_
            refine a_op 12 rfl (by kernel_rfl) (fun w_ h_ => o_ssl_h Tryd.underlying9 rfl rfl (by omega) (by omega) ⟨rfl, rfl⟩) ?_
            refine a_op 13 rfl (by kernel_rfl) (fun w_ h_ => o_move (v := (S (readS p2 la lo2 x65.sec))) rfl ⟨rfl, rfl⟩) ?_
            refine a_op 14 rfl (by kernel_rfl) (fun w_ h_ => o_fieldAddr (k := 2) (fun _ => by kernel_rfl) rfl ⟨rfl, rfl⟩) ?_
            refine a_op 15 rfl (by kernel_rfl) (fun w_ h_ => o_load1 (v := (.int .i64 x65.upto)) Tryd.underlying3 rfl rfl h_ (seg_sub 0 rfl) (CellsAt.one rfl) ⟨rfl, rfl⟩) ?_
            refine a_op 16 rfl (by kernel_rfl) (fun w_ h_ => o_ssl_l Tryd.underlying9 rfl rfl (by omega) (by omega) ⟨rfl, rfl⟩) ?_
            have hH86 : Has E { w77 with drawn := w77.drawn + 1 } [[Hp.one b67 (.cells #[(.int .i64 x65.sec), (.int .i64 x65.frm), (.int .i64 x65.upto)] 116 (0, 0))], [Hp.one ab (.cells #[(.pointer (some ⟨db, 0, none⟩)), (.int .i64 fr), (.int .i64 n)] 65 (0, 0))]] := ((hH85.front 4 rfl).front 3 rfl).first 2 rfl
            refine a_w 17 rfl (by kernel_rfl) hH86 (o_buildSlice (ps := #[(0, (S ((readS p2 la lo2 x65.sec).take (x65.frm).toNat))), (1, (S (rest.take (x65.upto - x65.frm).toNat))), (2, (S ((readS p2 la lo2 x65.sec).drop (x65.upto).toNat)))]) (cells := #[(S ((readS p2 la lo2 x65.sec).take (x65.frm).toNat)), (S (rest.take (x65.upto - x65.frm).toNat)), (S ((readS p2 la lo2 x65.sec).drop (x65.upto).toNat))]) Tryd.underlying32 ti9 (by decide) (parts3 rfl rfl rfl) (by kernel_rfl) hH85 fun b87 w88 hH89 => ?_)
            have hH90 : Has E w88 [[Hp.one b67 (.cells #[(.int .i64 x65.sec), (.int .i64 x65.frm), (.int .i64 x65.upto)] 116 (0, 0))], [Hp.one ab (.cells #[(.pointer (some ⟨db, 0, none⟩)), (.int .i64 fr), (.int .i64 n)] 65 (0, 0))]] := ((hH89.front 5 rfl).front 4 rfl).first 2 rfl
            refine a_done (by kernel_rfl) hH90 ?_
            refine r_op 18 rfl (by kernel_rfl) (o_callf (vs := #[(.pointer (some ⟨db, 0, none⟩)), (.int .i64 x65.sec), (.slice (some ⟨b87, 0, none⟩) 3 3)]) ca70 rfl (args3 rfl rfl rfl) (write_d (p := p2) (la := la) (lo := lo2) ((hH89.front 2 rfl).front 2 rfl).all2 hd2 (hp2.ok (by omega)) hla x65.sec (l := [(readS p2 la lo2 x65.sec).take (x65.frm).toNat, rest.take (x65.upto - x65.frm).toNat, (readS p2 la lo2 x65.sec).drop (x65.upto).toNat]) ((sl_lit (f := sV) (l := [(readS p2 la lo2 x65.sec).take (x65.frm).toNat, rest.take (x65.upto - x65.frm).toNat, (readS p2 la lo2 x65.sec).drop (x65.upto).toNat]) rfl rfl (by simp)).mono (seg_sub 0 rfl)) (by first | omega | simp) (by first | omega | (simp only [List.flatten_cons, List.flatten_nil, List.length_append, List.length_take, List.length_drop, List.length_nil]; omega))) ?_)
            rintro _ w95 ⟨sg91, rfl, hd92, hX93⟩
            refine ⟨_, rfl, ?_⟩
            have hH94 : Has E w95 [sg91, [Hp.one pb (.cells #[(.bool (useS p2).off), (.bool (useS p2).armed), (.int .i64 (useS p2).left), (.int .i64 (useS p2).uses)] 104 (0, 0))], [Hp.one b87 (.cells #[(S ((readS p2 la lo2 x65.sec).take (x65.frm).toNat)), (S (rest.take (x65.upto - x65.frm).toNat)), (S ((readS p2 la lo2 x65.sec).drop (x65.upto).toNat))] 9 (0, 0))], [Hp.one b67 (.cells #[(.int .i64 x65.sec), (.int .i64 x65.frm), (.int .i64 x65.upto)] 116 (0, 0))], s46, [Hp.one ab (.cells #[(.pointer (some ⟨db, 0, none⟩)), (.int .i64 fr), (.int .i64 n)] 65 (0, 0))], R] := hX93.of_all2
            refine r_op 19 rfl (by kernel_rfl) (o_assign (v := (.int .i64 (writeE p2 la.length x65.sec [(readS p2 la lo2 x65.sec).take (x65.frm).toNat, rest.take (x65.upto - x65.frm).toNat, (readS p2 la lo2 x65.sec).drop (x65.upto).toNat].flatten))) rfl ?_)
            refine Rest.done (by kernel_rfl) ?_
            refine t_norm (hK84 _ _ ?_)
            refine wp_seq_k fun K96 hK96 => ?_
            refine c_region ?_
            refine s_op (o_move (v := (.int .i64 (writeE p2 la.length x65.sec [(readS p2 la lo2 x65.sec).take (x65.frm).toNat, rest.take (x65.upto - x65.frm).toNat, (readS p2 la lo2 x65.sec).drop (x65.upto).toNat].flatten))) rfl ?_)
            refine s_op (o_neq (a := writeE p2 la.length x65.sec [(readS p2 la lo2 x65.sec).take (x65.frm).toNat, rest.take (x65.upto - x65.frm).toNat, (readS p2 la lo2 x65.sec).drop (x65.upto).toNat].flatten) (b := 0) rfl rfl ?_)
            refine s_nil ?_
            refine t_norm (hK96 _ _ ?_)
            refine c_cond rfl (fun h97 => ?_) (fun h97 => ?_)
            · -- writeE p2 la.length x65.sec [(readS p2 la lo2 x65.sec).take (x65.frm).toNat, rest.take (x65.upto - x65.frm).toNat, (readS p2 la lo2 x65.sec).drop (x65.upto).toNat].flatten ≠ 0
              have hfl_ : ([(readS p2 la lo2 x65.sec).take (x65.frm).toNat, rest.take (x65.upto - x65.frm).toNat, (readS p2 la lo2 x65.sec).drop (x65.upto).toNat] : List Bs).flatten = put1 la lo2 x65 rest := by rw [hrd_.1]; simp [put1]
              have hwr_ := write_now hp2 (m := la.length) (lo := lo2) (n := x65.sec) (s := ([(readS p2 la lo2 x65.sec).take (x65.frm).toNat, rest.take (x65.upto - x65.frm).toNat, (readS p2 la lo2 x65.sec).drop (x65.upto).toNat] : List Bs).flatten) ⟨by omega, by omega⟩ (by rw [hfl_]; exact put1_len (fr := fr) (n := n) ⟨hq1, hq2, hq3, hq4, hq5⟩ (by rw [← hrd_.1]; exact hrl_) (by omega))
              exact absurd hwr_.2 h97
            · -- not: writeE p2 la.length x65.sec [(readS p2 la lo2 x65.sec).take (x65.frm).toNat, rest.take (x65.upto - x65.frm).toNat, (readS p2 la lo2 x65.sec).drop (x65.upto).toNat].flatten ≠ 0
              have hfl_ : ([(readS p2 la lo2 x65.sec).take (x65.frm).toNat, rest.take (x65.upto - x65.frm).toNat, (readS p2 la lo2 x65.sec).drop (x65.upto).toNat] : List Bs).flatten = put1 la lo2 x65 rest := by rw [hrd_.1]; simp [put1]
              have hwr_ := write_now hp2 (m := la.length) (lo := lo2) (n := x65.sec) (s := ([(readS p2 la lo2 x65.sec).take (x65.frm).toNat, rest.take (x65.upto - x65.frm).toNat, (readS p2 la lo2 x65.sec).drop (x65.upto).toNat] : List Bs).flatten) ⟨by omega, by omega⟩ (by rw [hfl_]; exact put1_len (fr := fr) (n := n) ⟨hq1, hq2, hq3, hq4, hq5⟩ (by rw [← hrd_.1]; exact hrl_) (by omega))
              refine wp_skip ?_
              refine t_norm (hK83 _ _ ?_)
              refine c_region ?_
              refine s_op (o_move (v := (S rest)) e51_10 ?_)
              refine s_op (o_move (v := (.int .i64 (x65.upto - x65.frm))) rfl ?_)
              refine s_op (o_ssl_l Tryd.underlying9 rfl rfl (by omega) (by omega) ?_)
              refine s_op (o_assign (v := (S (rest.drop (x65.upto - x65.frm).toNat))) rfl ?_)
              refine s_nil ?_
              refine b_norm ?_
              refine t_norm (hK60 _ _ ?_)
              refine c_region ?_
              refine s_op (o_add (a := (j : Int)) (b := 1) e51_47 rfl (w64 (by omega) (by omega)) ?_)
              refine s_op (o_move (v := (.int .i64 ((j : Int) + 1))) rfl ?_)
              refine s_nil ?_
              have hH98 : Has E w95 [sg91, [Hp.one pb (.cells #[(.bool (useS p2).off), (.bool (useS p2).armed), (.int .i64 (useS p2).left), (.int .i64 (useS p2).uses)] 104 (0, 0))], s46, [Hp.one ab (.cells #[(.pointer (some ⟨db, 0, none⟩)), (.int .i64 fr), (.int .i64 n)] 65 (0, 0))], R] := (((((hH94.front 6 rfl).front 6 rfl).front 6 rfl).front 4 rfl).front 4 rfl).first 5 rfl
              refine t_norm ⟨(allP fr (n * 64) (at_ % (n * 64)) z).length - (j + 1), _, rfl, ?_, ?_⟩
              · omega
              · exact ⟨(j + 1), (rest.drop (x65.upto - x65.frm).toNat), (writeS p2 la.length lo2 x65.sec [(readS p2 la lo2 x65.sec).take (x65.frm).toNat, rest.take (x65.upto - x65.frm).toNat, (readS p2 la lo2 x65.sec).drop (x65.upto).toNat].flatten), (useS p2), sg91, rfl, hH98, (by omega), (hd92), (hlo2.write _ _ _), (hp2.use), (by rw [List.length_drop]; omega), (by rw [hset, drop_of (show (allP fr (n * 64) (at_ % (n * 64)) z)[j]? = some _ from hx66), setP, hwr_.1, hfl_]), e51_0, e51_1, e51_2, e51_7, rfl, e51_17, e51_18, e51_19, e51_20, e51_33, e51_39, e51_45, e51_46, rfl⟩
        · -- not: (j : Int) < (((allP fr (n * 64) (at_ % (n * 64)) z).length : Nat) : Int)
          refine wp_exit ?_
          refine t_exit (t_exit (x_in (?_)))
          refine t_norm (hK43 _ _ ?_)
          refine wp_seq_k fun K99 hK99 => ?_
          refine c_region ?_
          refine s_op (o_assign (v := (.int .i64 0)) rfl ?_)
          refine s_nil ?_
          refine t_norm (hK99 _ _ ?_)
          refine wp_ret ?_
          refine c_ret1 Tryd.results31  (v := (.int .i64 0)) rfl ?_
          have hH100 : Has E w54 [sg2, [Hp.one pb (.cells #[(.bool p2.off), (.bool p2.armed), (.int .i64 p2.left), (.int .i64 p2.uses)] 104 (0, 0))], [Hp.one ab (.cells #[(.pointer (some ⟨db, 0, none⟩)), (.int .i64 fr), (.int .i64 n)] 65 (0, 0))], R] := ((((hH55.front 4 rfl).front 4 rfl).front 3 rfl).front 3 rfl).first 4 rfl
          have e_ : j = (allP fr (n * 64) (at_ % (n * 64)) z).length := by omega
          rw [e_, List.drop_length] at hset
          exact ⟨_, _, rfl, by rw [← hzz, hset]; exact hd2, by rw [← hzz, hset]; exact hlo2, hp2.mono (by omega), hH100⟩
set_option maxHeartbeats 4000000 in
theorem aset_no {E w : World} {R sg : List Hp} {ab db pb k : Nat} {fr n : Int} {p : Pw} {la : List Bs} {lo : List (Int × Bs)} (hH : Has E w [sg, [Hp.one pb (.cells #[(.bool p.off), (.bool p.armed), (.int .i64 p.left), (.int .i64 p.uses)] 104 (0, 0))], [Hp.one ab (.cells #[(.pointer (some ⟨db, 0, none⟩)), (.int .i64 fr), (.int .i64 n)] 65 (0, 0))], R]) (hd : DevAt pb sg db la lo) (hp : Calm p k) (hk : k ≤ 100000) (h64 : Full64 la) (hlo : LoOk lo la.length) (hfr : 0 ≤ fr) (hn : 1 ≤ n) (hfn : fr + n ≤ la.length) (hla : la.length ≤ 4096) {at_ : Int} {v : Value} {data : List Bs} (hv : Sl R 1 v data.length (data.map sV)) (hdn : data.length ≤ 1000) (hdl : data.flatten.length ≤ 1000000) (hno : ¬ (0 ≤ at_ ∧ at_ ≤ 4611686018427387904 ∧ 0 ≤ (data.flatten.length : Int) ∧ (data.flatten.length : Int) ≤ n * 64)) :
    Calls Tryd.prog 31 #[(.pointer (some ⟨ab, 0, none⟩)), (.int .i64 at_), v] w fun e w' => e = .returned (.int .i64 1) ∧ Has E w' [sg, [Hp.one pb (.cells #[(.bool p.off), (.bool p.armed), (.int .i64 p.left), (.int .i64 p.uses)] 104 (0, 0))], [Hp.one ab (.cells #[(.pointer (some ⟨db, 0, none⟩)), (.int .i64 fr), (.int .i64 n)] 65 (0, 0))], R] := by
  have hz0_ : (0 : Int) ≤ (data.flatten.length : Int) := by omega
  refine c_enter (args := [(.pointer (some ⟨ab, 0, none⟩)), (.int .i64 at_), v]) Tryd.func31 rfl Tryd.ntmps31 (by simp) ?_
  refine wp_seq_k fun K1 hK1 => ?_
  refine c_region ?_
  refine s_op (o_assign (v := (.int .i64 0)) rfl ?_)
  refine s_nil ?_
  refine t_norm (hK1 _ _ ?_)
  refine wp_seq_k fun K2 hK2 => ?_
  refine c_region ?_
  refine s_op (o_assign (v := (.int .i64 0)) rfl ?_)
  refine s_nil ?_
  refine t_norm (hK2 _ _ ?_)
  refine wp_seq_k fun K3 hK3 => ?_
  refine wp_seq_k fun K4 hK4 => ?_
  refine c_region ?_
  refine s_op (o_move (v := v) rfl ?_)
  refine s_op (o_lenS Tryd.underlying32 rfl hv ?_)
  refine s_op (o_move (v := (.int .i64 0)) rfl ?_)
  refine s_nil ?_
  refine t_norm (hK4 _ _ ?_)
  refine wp_block ?_
  let I6 : Nat → (Nat → Value) → World → Prop := fun n__ r__ w__ => ∃ (i : Nat) (z : Int), n__ = data.length - i ∧ Has E w__ [sg, [Hp.one pb (.cells #[(.bool p.off), (.bool p.armed), (.int .i64 p.left), (.int .i64 p.uses)] 104 (0, 0))], [Hp.one ab (.cells #[(.pointer (some ⟨db, 0, none⟩)), (.int .i64 fr), (.int .i64 n)] 65 (0, 0))], R] ∧ (i ≤ data.length) ∧ (z = ((data.take i).flatten.length : Int)) ∧ r__ 0 = (.pointer (some ⟨ab, 0, none⟩)) ∧ r__ 1 = (.int .i64 at_) ∧ r__ 2 = v ∧ r__ 6 = (.int .i64 0) ∧ r__ 7 = (.int .i64 z) ∧ r__ 17 = v ∧ r__ 18 = (.int .i64 ((data.length : Nat) : Int)) ∧ r__ 19 = (.int .i64 (i : Int))
  refine c_loop I6 _ ⟨0, 0, rfl, hH, Nat.zero_le _, (by simp), rfl, rfl, rfl, rfl, rfl, rfl, rfl, rfl⟩ ?_
  rintro n_ r9 w7 ⟨i, z, rfl, hH8, hi, hz, e5_0, e5_1, e5_2, e5_6, e5_7, e5_17, e5_18, e5_19⟩
  have hzl := flat_take_le data i
  refine wp_seq_k fun K10 hK10 => ?_
  refine c_region ?_
  refine s_op (o_lss (a := (i : Int)) (b := ((data.length : Nat) : Int)) e5_19 e5_18 ?_)
  refine s_nil ?_
  refine t_norm (hK10 _ _ ?_)
  refine wp_seq_k fun K11 hK11 => ?_
  refine c_cond rfl (fun h12 => ?_) (fun h12 => ?_)
  · -- (i : Int) < ((data.length : Nat) : Int)
    refine wp_skip ?_
    refine t_norm (hK11 _ _ ?_)
    refine wp_seq_k fun K13 hK13 => ?_
    refine wp_block ?_
    refine wp_seq_k fun K14 hK14 => ?_
    refine c_region ?_
    obtain ⟨x18, hx19⟩ : ∃ x_, data[((i : Int)).toNat]? = some x_ := get_some (by omega)
    refine s_op (o_index1 Tryd.underlying32 ti9 e5_17 hv e5_19 (by omega) hx19 fun b15 o16 hc17 => ?_)
    refine s_op (o_load1 (v := (S x18)) Tryd.underlying9 rfl rfl hH8 (seg_sub 3 rfl) hc17 ?_)
    refine s_op (o_assign (v := (S x18)) rfl ?_)
    refine s_nil ?_
    refine t_norm (hK14 _ _ ?_)
    refine c_region ?_
    refine s_op (o_move (v := (.int .i64 z)) e5_7 ?_)
    refine s_op (o_move (v := (S x18)) rfl ?_)
    refine s_op (o_slen Tryd.underlying9 rfl ?_)
    refine s_op (o_buildSlice (ps := #[(0, (.int .i64 z)), (1, (.int .i64 (x18.length : Int)))]) (cells := #[(.int .i64 z), (.int .i64 (x18.length : Int))]) Tryd.underlying56 ti3 (by decide) (parts2 rfl rfl) (by kernel_rfl) hH8 fun b20 w21 hH22 => ?_)
    have hxl_ := flat_take_le data (i + 1)
    rw [flatten_take_succ (show data[i]? = some _ from hx19), List.length_append] at hxl_
    refine s_op (o_callf (vs := #[(.slice (some ⟨b20, 0, none⟩) 2 2)]) ca65 rfl (args1 rfl) ((by have h_ := sum_c hH22.all (l := [z, (x18.length : Int)]) ((sl_lit (f := iV) (l := [z, (x18.length : Int)]) rfl rfl (by simp)).mono (seg_sub 0 rfl)); rwa [sum2 ⟨by omega, by omega⟩ ⟨by omega, by omega⟩] at h_)) ?_)
    rintro _ w25 ⟨rfl, hX23⟩
    refine ⟨_, rfl, ?_⟩
    have hH24 := hX23.of_all
    refine s_op (o_assign (v := (.int .i64 (z + (x18.length : Int)))) rfl ?_)
    refine s_nil ?_
    refine b_norm ?_
    refine t_norm (hK13 _ _ ?_)
    refine c_region ?_
    refine s_op (o_add (a := (i : Int)) (b := 1) e5_19 rfl (w64 (by omega) (by omega)) ?_)
    refine s_op (o_move (v := (.int .i64 ((i : Int) + 1))) rfl ?_)
    refine s_nil ?_
    have hH26 : Has E w25 [sg, [Hp.one pb (.cells #[(.bool p.off), (.bool p.armed), (.int .i64 p.left), (.int .i64 p.uses)] 104 (0, 0))], [Hp.one ab (.cells #[(.pointer (some ⟨db, 0, none⟩)), (.int .i64 fr), (.int .i64 n)] 65 (0, 0))], R] := ((((hH24.front 4 rfl).front 4 rfl).front 4 rfl).front 4 rfl).first 4 rfl
    refine t_norm ⟨data.length - (i + 1), _, rfl, ?_, ?_⟩
    · omega
    · exact ⟨(i + 1), (z + (x18.length : Int)), rfl, hH26, (by omega), (by rw [flatten_take_succ (show data[i]? = some _ from hx19), List.length_append]; omega), e5_0, e5_1, e5_2, e5_6, rfl, e5_17, e5_18, rfl⟩
  · -- not: (i : Int) < ((data.length : Nat) : Int)
    refine wp_exit ?_
    refine t_exit (t_exit (x_in (?_)))
    refine t_norm (hK3 _ _ ?_)
    refine wp_seq_k fun K27 hK27 => ?_
    refine wp_seq_k fun K28 hK28 => ?_
    refine c_region ?_
    refine s_op (o_move (v := (.pointer (some ⟨ab, 0, none⟩))) e5_0 ?_)
    refine s_op (o_move (v := (.int .i64 at_)) e5_1 ?_)
    refine s_op (o_move (v := (.int .i64 z)) e5_7 ?_)
    refine s_op (o_callf (vs := #[(.pointer (some ⟨ab, 0, none⟩)), (.int .i64 at_), (.int .i64 z)]) ca66 rfl (args3 rfl rfl rfl) (amay_c (hH8.front 2 rfl).all1 ⟨by omega, by omega⟩ at_ z) ?_)
    rintro _ w31 ⟨rfl, hX29⟩
    refine ⟨_, rfl, ?_⟩
    have hH30 : Has E w31 [[Hp.one ab (.cells #[(.pointer (some ⟨db, 0, none⟩)), (.int .i64 fr), (.int .i64 n)] 65 (0, 0))], sg, [Hp.one pb (.cells #[(.bool p.off), (.bool p.armed), (.int .i64 p.left), (.int .i64 p.uses)] 104 (0, 0))], R] := hX29.of_all1
    refine s_op (o_not2 (b := decide (0 ≤ at_ ∧ at_ ≤ 4611686018427387904 ∧ 0 ≤ z ∧ z ≤ n * 64)) (b' := decide (¬ (0 ≤ at_ ∧ at_ ≤ 4611686018427387904 ∧ 0 ≤ z ∧ z ≤ n * 64))) rfl not_dec ?_)
    refine s_nil ?_
    refine t_norm (hK28 _ _ ?_)
    refine c_cond rfl (fun h32 => ?_) (fun h32 => ?_)
    · -- ¬ (0 ≤ at_ ∧ at_ ≤ 4611686018427387904 ∧ 0 ≤ z ∧ z ≤ n * 64)
      have hzz : z = (data.flatten.length : Int) := by rw [hz, show i = data.length by omega, List.take_of_length_le (Nat.le_refl _)]
      refine wp_seq_k fun K33 hK33 => ?_
      refine c_region ?_
      refine s_op (o_assign (v := (.int .i64 1)) rfl ?_)
      refine s_nil ?_
      refine t_norm (hK33 _ _ ?_)
      refine wp_ret ?_
      refine t_ret (c_ret1 Tryd.results31  (v := (.int .i64 1)) rfl ?_)
      have hH34 : Has E w31 [sg, [Hp.one pb (.cells #[(.bool p.off), (.bool p.armed), (.int .i64 p.left), (.int .i64 p.uses)] 104 (0, 0))], [Hp.one ab (.cells #[(.pointer (some ⟨db, 0, none⟩)), (.int .i64 fr), (.int .i64 n)] 65 (0, 0))], R] := ((((hH30.front 3 rfl).front 1 rfl).front 3 rfl).front 3 rfl).first 4 rfl
      exact ⟨rfl, hH34⟩
    · -- not: ¬ (0 ≤ at_ ∧ at_ ≤ 4611686018427387904 ∧ 0 ≤ z ∧ z ≤ n * 64)
      have hzz : z = (data.flatten.length : Int) := by rw [hz, show i = data.length by omega, List.take_of_length_le (Nat.le_refl _)]
      exact absurd (show _ ∧ _ ∧ _ ∧ _ from (have g := Classical.not_not.1 h32; ⟨by omega, by omega, by omega, by omega⟩)) hno
end Go.Q
namespace Go.Q
structure AAct where
  kind : Int
  at_ : Int
  size : Int
  dv : Value
  data : List Bs
  kv : Value
  keep : List Int
def aaC (a : AAct) : List Value := [iV a.kind, iV a.at_, iV a.size, a.dv, a.kv]
theorem aaC_len (a : AAct) : (aaC a).length = 5 := rfl
def AaOk (R : List Hp) (a : AAct) : Prop := Sl R 1 a.dv a.data.length (a.data.map sV) ∧ Ints R a.kv a.keep ∧ (∀ t ∈ a.data, t.length ≤ 140737488355328)
theorem AaOk.mono {R R' : List Hp} {a : AAct} (h : AaOk R a) (hs : R ⊆ R') : AaOk R' a := ⟨h.1.mono hs, h.2.1.mono hs, h.2.2⟩
def AFin (a : AAct) : Prop := a.data.length ≤ 6 ∧ a.data.flatten.length ≤ 2000 ∧ a.keep.length ≤ 40
def AFine (l : List AAct) : Prop := l.length ≤ 30 ∧ ∀ a ∈ l, AFin a
theorem AFine.snoc {l : List AAct} {k : Nat} {x : AAct} (h : ∀ a ∈ l.take k, AFin a) (hx : l[k]? = some x) (hf : AFin x) : ∀ a ∈ l.take (k + 1), AFin a := by
  rw [List.take_add_one, hx]
  intro y hy
  rcases List.mem_append.1 hy with g | g
  · exact h y g
  · simp at g; rw [g]; exact hf
theorem full_blank (k : Nat) : Full64 (List.replicate k blankS) := fun s hs => by rw [(List.mem_replicate.1 hs).2]; rfl
/-- What is set in one area leaves what is got of another one. -/
theorem apart_get {la : List Bs} {lo : List (Int × Bs)} {all : Bs} {f1 n1 a1 s1 f2 n2 a2 s2 : Int} (hn1 : 0 < n1) (hn2 : 0 < n2) (h0 : 0 ≤ f1) (h : f1 + n1 ≤ f2) :
    getP la (setP la (allP f2 (n2 * 64) (a2 % (n2 * 64)) s2) lo all) (allP f1 (n1 * 64) (a1 % (n1 * 64)) s1) = getP la lo (allP f1 (n1 * 64) (a1 % (n1 * 64)) s1) := by
  refine getP_congr fun p hp => ?_
  have hp1 := pieces_ok hn1 _ _ _ (Int.emod_nonneg _ (by omega)) (Int.emod_lt_of_pos _ (by omega)) p hp
  refine setP_other _ _ _ fun q hq => ?_
  have hq1 := pieces_ok hn2 _ _ _ (Int.emod_nonneg _ (by omega)) (Int.emod_lt_of_pos _ (by omega)) q hq
  unfold PcOk at hp1 hq1
  omega
end Go.Q
namespace Go.Q
open Go.Proofs
set_option linter.unusedVariables false
set_option maxRecDepth 100000
attribute [local irreducible] wpList OK Code.wp
set_option maxHeartbeats 4000000 in
theorem join6_c {E w : World} {R : List Hp} (hH : Has E w [R]) {v : Value} {l : List Bs} (hv : Sl R 1 v l.length (l.map sV)) (hn : ∀ t ∈ l, t.length ≤ 140737488355328) (hl : l.length ≤ 1000) :
    Calls Tryd.prog 30 #[v] w fun e w' => e = .returned (S l.flatten) ∧ Has E w' [R] := by
  refine c_enter (args := [v]) Tryd.func30 rfl Tryd.ntmps30 (by simp) ?_
  refine wp_seq_k fun K1 hK1 => ?_
  refine c_region ?_
  refine s_op (o_assign (v := (S ([] : List UInt8))) rfl ?_)
  refine s_nil ?_
  refine t_norm (hK1 _ _ ?_)
  refine wp_seq_k fun K2 hK2 => ?_
  refine c_region ?_
  refine s_op (o_assign (v := (S ([] : List UInt8))) rfl ?_)
  refine s_nil ?_
  refine t_norm (hK2 _ _ ?_)
  refine wp_seq_k fun K3 hK3 => ?_
  refine wp_seq_k fun K4 hK4 => ?_
  refine c_region ?_
  refine s_op (o_assign (v := (.int .i64 0)) rfl ?_)
  refine s_nil ?_
  refine t_norm (hK4 _ _ ?_)
  refine wp_block ?_
  let I6 : Nat → (Nat → Value) → World → Prop := fun n__ r__ w__ => ∃ (k : Nat) (t : Bs), n__ = l.length - k ∧ Has E w__ [R] ∧ (k ≤ l.length) ∧ (t = (l.take k).flatten) ∧ (t.length ≤ k * 140737488355328) ∧ r__ 0 = v ∧ r__ 2 = (S ([] : List UInt8)) ∧ r__ 3 = (S t) ∧ r__ 4 = (.int .i64 (k : Int))
  refine c_loop I6 _ ⟨0, ([] : Bs), rfl, hH, Nat.zero_le _, (by simp), (by simp), rfl, rfl, rfl, rfl⟩ ?_
  rintro n_ r9 w7 ⟨k, t, rfl, hH8, hk, ht, htl, e5_0, e5_2, e5_3, e5_4⟩
  refine wp_seq_k fun K10 hK10 => ?_
  refine wp_seq_k fun K11 hK11 => ?_
  refine c_region ?_
  refine s_op (o_move (v := (.int .i64 (k : Int))) e5_4 ?_)
  refine s_op (o_move (v := v) e5_0 ?_)
  refine s_op (o_lenS Tryd.underlying32 rfl hv ?_)
  refine s_op (o_lss (a := (k : Int)) (b := ((l.length : Nat) : Int)) rfl rfl ?_)
  refine s_nil ?_
  refine t_norm (hK11 _ _ ?_)
  refine c_cond rfl (fun h12 => ?_) (fun h12 => ?_)
  · -- (k : Int) < ((l.length : Nat) : Int)
    refine wp_skip ?_
    refine t_norm (hK10 _ _ ?_)
    refine wp_seq_k fun K13 hK13 => ?_
    refine wp_block ?_
    refine c_region ?_
    refine s_op (o_move (v := (S t)) e5_3 ?_)
    refine s_op (o_move (v := v) e5_0 ?_)
    refine s_op (o_move (v := (.int .i64 (k : Int))) e5_4 ?_)
    obtain ⟨x17, hx18⟩ : ∃ x_, l[((k : Int)).toNat]? = some x_ := get_some (by omega)
    refine s_op (o_index1 Tryd.underlying32 ti9 rfl hv rfl (by omega) hx18 fun b14 o15 hc16 => ?_)
    refine s_op (o_load1 (v := (S x17)) Tryd.underlying9 rfl rfl hH8 (seg_sub 0 rfl) hc16 ?_)
    refine s_op (o_sadd rfl rfl (by have := hn _ (List.mem_of_getElem? (by assumption)); first | omega | (simp only [List.length_append]; omega)) ?_)
    refine s_op (o_assign (v := (S (t ++ x17))) rfl ?_)
    refine s_nil ?_
    refine b_norm ?_
    refine t_norm (hK13 _ _ ?_)
    refine c_region ?_
    refine s_op (o_move (v := (.int .i64 (k : Int))) e5_4 ?_)
    refine s_op (o_add (a := (k : Int)) (b := 1) rfl rfl (w64 (by omega) (by omega)) ?_)
    refine s_op (o_assign (v := (.int .i64 ((k : Int) + 1))) rfl ?_)
    refine s_nil ?_
    refine t_norm ⟨l.length - (k + 1), _, rfl, ?_, ?_⟩
    · omega
    · exact ⟨(k + 1), (t ++ x17), rfl, hH8, (by omega), (by rw [flatten_take_succ (show l[k]? = some _ from hx18), ← ht]), (by have := hn _ (List.mem_of_getElem? hx18); simp only [List.length_append]; omega), e5_0, e5_2, rfl, rfl⟩
  · -- not: (k : Int) < ((l.length : Nat) : Int)
    refine wp_exit ?_
    refine t_exit (t_exit (x_in (?_)))
    refine t_norm (hK3 _ _ ?_)
    refine wp_seq_k fun K19 hK19 => ?_
    refine c_region ?_
    refine s_op (o_move (v := (S t)) e5_3 ?_)
    refine s_op (o_assign (v := (S t)) rfl ?_)
    refine s_nil ?_
    refine t_norm (hK19 _ _ ?_)
    refine wp_ret ?_
    refine c_ret1 Tryd.results30  (v := (S t)) rfl ?_
    have e_ : k = l.length := by omega
    rw [e_, List.take_of_length_le (Nat.le_refl _)] at ht
    exact ⟨by rw [ht], hH8⟩
set_option maxHeartbeats 4000000 in
theorem great6_c {E w : World} {R : List Hp} (hH : Has E w [R]) {v : Value} {l : List AAct} (hv : Sl R 5 v l.length (l.flatMap aaC)) (hok : ∀ a ∈ l, AaOk R a) :
    Calls Tryd.prog 24 #[v] w fun e w' => ∃ b, e = .returned (.bool b) ∧ (b = false → AFine l) ∧ Has E w' [R] := by
  have hn_ := hv.le
  have hml := fun (x : AAct) (hx : x ∈ l) => (hok x hx).1.le
  have hml2 := fun (x : AAct) (hx : x ∈ l) => (hok x hx).2.1.le
  refine c_enter (args := [v]) Tryd.func24 rfl Tryd.ntmps24 (by simp) ?_
  refine wp_seq_k fun K1 hK1 => ?_
  refine c_region ?_
  refine s_op (o_assign (v := (.bool false)) rfl ?_)
  refine s_nil ?_
  refine t_norm (hK1 _ _ ?_)
  refine wp_seq_k fun K2 hK2 => ?_
  refine wp_seq_k fun K3 hK3 => ?_
  refine c_region ?_
  refine s_op (o_move (v := v) rfl ?_)
  refine s_op (o_lenS Tryd.underlying48 rfl hv ?_)
  refine s_op (o_gtr (a := ((l.length : Nat) : Int)) (b := 30) rfl rfl ?_)
  refine s_nil ?_
  refine t_norm (hK3 _ _ ?_)
  refine c_cond rfl (fun h4 => ?_) (fun h4 => ?_)
  · -- 30 < ((l.length : Nat) : Int)
    refine wp_seq_k fun K5 hK5 => ?_
    refine c_region ?_
    refine s_op (o_assign (v := (.bool true)) rfl ?_)
    refine s_nil ?_
    refine t_norm (hK5 _ _ ?_)
    refine wp_ret ?_
    refine t_ret (c_ret1 Tryd.results24  (v := (.bool true)) rfl ?_)
    exact ⟨true, rfl, (fun g => by cases g), hH⟩
  · -- not: 30 < ((l.length : Nat) : Int)
    refine wp_skip ?_
    refine t_norm (hK2 _ _ ?_)
    refine wp_seq_k fun K6 hK6 => ?_
    refine wp_seq_k fun K7 hK7 => ?_
    refine c_region ?_
    refine s_op (o_assign (v := (.int .i64 0)) rfl ?_)
    refine s_nil ?_
    refine t_norm (hK7 _ _ ?_)
    refine wp_block ?_
    let I9 : Nat → (Nat → Value) → World → Prop := fun n__ r__ w__ => ∃ (k : Nat), n__ = l.length - k ∧ Has E w__ [R] ∧ (k ≤ l.length) ∧ (∀ a ∈ l.take k, AFin a) ∧ r__ 0 = v ∧ r__ 3 = (.int .i64 (k : Int)) ∧ r__ 6 = (.bool (decide (30 < ((l.length : Nat) : Int))))
    refine c_loop I9 _ ⟨0, rfl, hH, Nat.zero_le _, (by simp), rfl, rfl, rfl⟩ ?_
    rintro n_ r12 w10 ⟨k, rfl, hH11, hk, hfn, e8_0, e8_3, e8_6⟩
    refine wp_seq_k fun K13 hK13 => ?_
    refine wp_seq_k fun K14 hK14 => ?_
    refine c_region ?_
    refine s_op (o_move (v := (.int .i64 (k : Int))) e8_3 ?_)
    refine s_op (o_move (v := v) e8_0 ?_)
    refine s_op (o_lenS Tryd.underlying48 rfl hv ?_)
    refine s_op (o_lss (a := (k : Int)) (b := ((l.length : Nat) : Int)) rfl rfl ?_)
    refine s_nil ?_
    refine t_norm (hK14 _ _ ?_)
    refine c_cond rfl (fun h15 => ?_) (fun h15 => ?_)
    · -- (k : Int) < ((l.length : Nat) : Int)
      refine wp_skip ?_
      refine t_norm (hK13 _ _ ?_)
      refine wp_seq_k fun K16 hK16 => ?_
      refine wp_block ?_
      refine wp_seq_k fun K17 hK17 => ?_
      refine c_region ?_
      refine s_op (o_move (v := v) e8_0 ?_)
      refine s_op (o_move (v := (.int .i64 (k : Int))) e8_3 ?_)
      obtain ⟨x21, hx22⟩ : ∃ x_, l[((k : Int)).toNat]? = some x_ := get_some (by omega)
      refine s_op (o_indexF aaC_len Tryd.underlying48 ti58 rfl hv rfl rfl (by omega) hx22 fun b18 o19 hc20 => ?_)
      refine s_op (o_fieldAddr (k := o19 + 3) (fun _ => by kernel_rfl) rfl ?_)
      refine s_op (o_load1 (v := x21.dv) Tryd.underlying32 rfl rfl hH11 (seg_sub 0 rfl) (CellsAt.field (k := 3) (ds := [x21.dv]) hc20 rfl) ?_)
      refine s_op (o_lenS Tryd.underlying32 rfl (hok x21 (List.mem_of_getElem? hx22)).1 ?_)
      refine s_op (o_gtr (a := ((x21.data.length : Nat) : Int)) (b := 6) rfl rfl ?_)
      refine s_op (o_move (v := (.bool (decide (6 < ((x21.data.length : Nat) : Int))))) rfl ?_)
      by_cases h23 : 6 < ((x21.data.length : Nat) : Int)
      · -- 6 < ((x21.data.length : Nat) : Int)
        refine s_off (b' := true) 20 rfl (congrArg Value.bool (decide_eq_true h23)) rfl ?_
        refine s_off (b' := true) 20 rfl (congrArg Value.bool (decide_eq_true h23)) rfl ?_
        refine s_off (b' := true) 20 rfl (congrArg Value.bool (decide_eq_true h23)) rfl ?_
        refine s_off (b' := true) 20 rfl (congrArg Value.bool (decide_eq_true h23)) rfl ?_
        refine s_off (b' := true) 20 rfl (congrArg Value.bool (decide_eq_true h23)) rfl ?_
        refine s_off (b' := true) 20 rfl (congrArg Value.bool (decide_eq_true h23)) rfl ?_
        refine s_off (b' := true) 20 rfl (congrArg Value.bool (decide_eq_true h23)) rfl ?_
        refine s_off (b' := true) 20 rfl (congrArg Value.bool (decide_eq_true h23)) rfl ?_
        refine s_op (o_pick_t (u := (.bool true)) ((rfl : _ = _).trans (congrArg Value.bool (decide_eq_true h23))) rfl ?_)
        refine s_op (o_move (v := (.bool true)) rfl ?_)
        refine s_off (b' := true) 30 rfl rfl rfl ?_
        refine s_off (b' := true) 30 rfl rfl rfl ?_
        refine s_off (b' := true) 30 rfl rfl rfl ?_
        refine s_off (b' := true) 30 rfl rfl rfl ?_
        refine s_off (b' := true) 30 rfl rfl rfl ?_
        refine s_off (b' := true) 30 rfl rfl rfl ?_
        refine s_off (b' := true) 30 rfl rfl rfl ?_
        refine s_op (o_pick_t (u := (.bool true)) rfl rfl ?_)
        refine s_nil ?_
        refine t_norm (hK17 _ _ ?_)
        refine c_true rfl rfl ?_
        refine wp_seq_k fun K24 hK24 => ?_
        refine c_region ?_
        refine s_op (o_assign (v := (.bool true)) rfl ?_)
        refine s_nil ?_
        refine t_norm (hK24 _ _ ?_)
        refine wp_ret ?_
        refine b_ret (t_ret (t_ret (b_ret (t_ret (c_ret1 Tryd.results24  (v := (.bool true)) rfl ?_)))))
        exact ⟨true, rfl, (fun g => by cases g), hH11⟩
      · -- not: 6 < ((x21.data.length : Nat) : Int)
        refine s_on 20 rfl (congrArg Value.bool (decide_eq_false h23)) (o_move (v := v) e8_0 ?_)
        refine s_on 20 rfl (congrArg Value.bool (decide_eq_false h23)) (o_move (v := (.int .i64 (k : Int))) e8_3 ?_)
        refine s_on 20 rfl (congrArg Value.bool (decide_eq_false h23)) (o_indexF aaC_len Tryd.underlying48 ti58 rfl hv rfl rfl (by omega) hx22 fun b25 o26 hc27 => ?_)
        refine s_on 20 rfl (congrArg Value.bool (decide_eq_false h23)) (o_fieldAddr (k := o26 + 3) (fun _ => by kernel_rfl) rfl ?_)
        refine s_on 20 rfl (congrArg Value.bool (decide_eq_false h23)) (o_load1 (v := x21.dv) Tryd.underlying32 rfl rfl hH11 (seg_sub 0 rfl) (CellsAt.field (k := 3) (ds := [x21.dv]) hc27 rfl) ?_)
        refine s_on 20 rfl (congrArg Value.bool (decide_eq_false h23)) (o_callf (vs := #[x21.dv]) ca30 rfl (args1 rfl) (join6_c hH11.all (l := x21.data) ((hok x21 (List.mem_of_getElem? hx22)).1.mono (seg_sub 0 rfl)) (hok _ (List.mem_of_getElem? hx22)).2.2 (by omega)) ?_)
        rintro _ w30 ⟨rfl, hX28⟩
        refine ⟨_, rfl, ?_⟩
        have hH29 := hX28.of_all
        refine s_on 20 rfl (congrArg Value.bool (decide_eq_false h23)) (o_slen Tryd.underlying9 rfl ?_)
        refine s_on 20 rfl (congrArg Value.bool (decide_eq_false h23)) (o_gtr (a := (x21.data.flatten.length : Int)) (b := 2000) rfl rfl ?_)
        refine s_op (o_pick_f (u := (.bool (decide (2000 < (x21.data.flatten.length : Int))))) ((rfl : _ = _).trans (congrArg Value.bool (decide_eq_false h23))) rfl ?_)
        refine s_op (o_move (v := (.bool (decide (2000 < (x21.data.flatten.length : Int))))) rfl ?_)
        by_cases h31 : 2000 < (x21.data.flatten.length : Int)
        · -- 2000 < (x21.data.flatten.length : Int)
          refine s_off (b' := true) 30 rfl (congrArg Value.bool (decide_eq_true h31)) rfl ?_
          refine s_off (b' := true) 30 rfl (congrArg Value.bool (decide_eq_true h31)) rfl ?_
          refine s_off (b' := true) 30 rfl (congrArg Value.bool (decide_eq_true h31)) rfl ?_
          refine s_off (b' := true) 30 rfl (congrArg Value.bool (decide_eq_true h31)) rfl ?_
          refine s_off (b' := true) 30 rfl (congrArg Value.bool (decide_eq_true h31)) rfl ?_
          refine s_off (b' := true) 30 rfl (congrArg Value.bool (decide_eq_true h31)) rfl ?_
          refine s_off (b' := true) 30 rfl (congrArg Value.bool (decide_eq_true h31)) rfl ?_
          refine s_op (o_pick_t (u := (.bool true)) ((rfl : _ = _).trans (congrArg Value.bool (decide_eq_true h31))) rfl ?_)
          refine s_nil ?_
          refine t_norm (hK17 _ _ ?_)
          refine c_true rfl rfl ?_
          refine wp_seq_k fun K32 hK32 => ?_
          refine c_region ?_
          refine s_op (o_assign (v := (.bool true)) rfl ?_)
          refine s_nil ?_
          refine t_norm (hK32 _ _ ?_)
          refine wp_ret ?_
          refine b_ret (t_ret (t_ret (b_ret (t_ret (c_ret1 Tryd.results24  (v := (.bool true)) rfl ?_)))))
          exact ⟨true, rfl, (fun g => by cases g), hH29⟩
        · -- not: 2000 < (x21.data.flatten.length : Int)
          refine s_on 30 rfl (congrArg Value.bool (decide_eq_false h31)) (o_move (v := v) e8_0 ?_)
          refine s_on 30 rfl (congrArg Value.bool (decide_eq_false h31)) (o_move (v := (.int .i64 (k : Int))) e8_3 ?_)
          refine s_on 30 rfl (congrArg Value.bool (decide_eq_false h31)) (o_indexF aaC_len Tryd.underlying48 ti58 rfl hv rfl rfl (by omega) hx22 fun b33 o34 hc35 => ?_)
          refine s_on 30 rfl (congrArg Value.bool (decide_eq_false h31)) (o_fieldAddr (k := o34 + 4) (fun _ => by kernel_rfl) rfl ?_)
          refine s_on 30 rfl (congrArg Value.bool (decide_eq_false h31)) (o_load1 (v := x21.kv) Tryd.underlying56 rfl rfl hH29 (seg_sub 0 rfl) (CellsAt.field (k := 4) (ds := [x21.kv]) hc35 rfl) ?_)
          refine s_on 30 rfl (congrArg Value.bool (decide_eq_false h31)) (o_lenS Tryd.underlying56 rfl (hok x21 (List.mem_of_getElem? hx22)).2.1 ?_)
          refine s_on 30 rfl (congrArg Value.bool (decide_eq_false h31)) (o_gtr (a := ((x21.keep.length : Nat) : Int)) (b := 40) rfl rfl ?_)
          refine s_op (o_pick_f (u := (.bool (decide (40 < ((x21.keep.length : Nat) : Int))))) ((rfl : _ = _).trans (congrArg Value.bool (decide_eq_false h31))) rfl ?_)
          refine s_nil ?_
          refine t_norm (hK17 _ _ ?_)
          refine c_cond rfl (fun h36 => ?_) (fun h36 => ?_)
          · -- 40 < ((x21.keep.length : Nat) : Int)
            refine wp_seq_k fun K37 hK37 => ?_
            refine c_region ?_
            refine s_op (o_assign (v := (.bool true)) rfl ?_)
            refine s_nil ?_
            refine t_norm (hK37 _ _ ?_)
            refine wp_ret ?_
            refine b_ret (t_ret (t_ret (b_ret (t_ret (c_ret1 Tryd.results24  (v := (.bool true)) rfl ?_)))))
            exact ⟨true, rfl, (fun g => by cases g), hH29⟩
          · -- not: 40 < ((x21.keep.length : Nat) : Int)
            refine wp_skip ?_
            refine b_norm ?_
            refine t_norm (hK16 _ _ ?_)
            refine c_region ?_
            refine s_op (o_move (v := (.int .i64 (k : Int))) e8_3 ?_)
            refine s_op (o_add (a := (k : Int)) (b := 1) rfl rfl (w64 (by omega) (by omega)) ?_)
            refine s_op (o_assign (v := (.int .i64 ((k : Int) + 1))) rfl ?_)
            refine s_nil ?_
            refine t_norm ⟨l.length - (k + 1), _, rfl, ?_, ?_⟩
            · omega
            · exact ⟨(k + 1), rfl, hH29, (by omega), (AFine.snoc hfn (show l[k]? = some _ from hx22) ⟨by omega, by omega, by omega⟩), e8_0, rfl, e8_6⟩
    · -- not: (k : Int) < ((l.length : Nat) : Int)
      refine wp_exit ?_
      refine t_exit (t_exit (x_in (?_)))
      refine t_norm (hK6 _ _ ?_)
      refine wp_seq_k fun K38 hK38 => ?_
      refine c_region ?_
      refine s_op (o_assign (v := (.bool false)) rfl ?_)
      refine s_nil ?_
      refine t_norm (hK38 _ _ ?_)
      refine wp_ret ?_
      refine c_ret1 Tryd.results24  (v := (.bool false)) rfl ?_
      have e_ : k = l.length := by omega
      rw [e_, List.take_of_length_le (Nat.le_refl _)] at hfn
      exact ⟨false, rfl, (fun _ => ⟨by omega, hfn⟩), hH11⟩
set_option maxHeartbeats 4000000 in
theorem anew_c {E w : World} {R sg : List Hp} {db pb : Nat} {p : Pw} {la : List Bs} {lo : List (Int × Bs)} (hH : Has E w [sg, [Hp.one pb (.cells #[(.bool p.off), (.bool p.armed), (.int .i64 p.left), (.int .i64 p.uses)] 104 (0, 0))], R]) (hd : DevAt pb sg db la lo) {fr n : Int} (hfr : 0 ≤ fr) (hn : 1 ≤ n) (hfn : fr + n ≤ la.length) (hla : la.length ≤ 4096) :
    Calls Tryd.prog 27 #[(.pointer (some ⟨db, 0, none⟩)), (.int .i64 fr), (.int .i64 n)] w fun e w' => ∃ ab, e = .returned (.pointer (some ⟨ab, 0, none⟩)) ∧ Has E w' [[Hp.one ab (.cells #[(.pointer (some ⟨db, 0, none⟩)), (.int .i64 fr), (.int .i64 n)] 65 (0, 0))], sg, [Hp.one pb (.cells #[(.bool p.off), (.bool p.armed), (.int .i64 p.left), (.int .i64 p.uses)] 104 (0, 0))], R] := by
  refine c_enter (args := [(.pointer (some ⟨db, 0, none⟩)), (.int .i64 fr), (.int .i64 n)]) Tryd.func27 rfl Tryd.ntmps27 (by simp) ?_
  refine wp_seq_k fun K1 hK1 => ?_
  refine c_region ?_
  refine s_op (o_assign (v := (.pointer none)) rfl ?_)
  refine s_nil ?_
  refine t_norm (hK1 _ _ ?_)
  refine wp_seq_k fun K2 hK2 => ?_
  refine wp_seq_k fun K3 hK3 => ?_
  refine c_region ?_
  refine s_op (o_move (v := (.int .i64 fr)) rfl ?_)
  refine s_op (o_lss (a := fr) (b := 0) rfl rfl ?_)
  refine s_op (o_move (v := (.bool (decide (fr < 0)))) rfl ?_)
  by_cases h4 : fr < 0
  · -- fr < 0
    exfalso; omega
  · -- not: fr < 0
    refine s_on 9 rfl (congrArg Value.bool (decide_eq_false h4)) (o_move (v := (.int .i64 n)) rfl ?_)
    refine s_on 9 rfl (congrArg Value.bool (decide_eq_false h4)) (o_lss (a := n) (b := 1) rfl rfl ?_)
    refine s_op (o_pick_f (u := (.bool (decide (n < 1)))) ((rfl : _ = _).trans (congrArg Value.bool (decide_eq_false h4))) rfl ?_)
    refine s_op (o_move (v := (.bool (decide (n < 1)))) rfl ?_)
    by_cases h5 : n < 1
    · -- n < 1
      exfalso; omega
    · -- not: n < 1
      refine s_on 13 rfl (congrArg Value.bool (decide_eq_false h5)) (o_move (v := (.int .i64 n)) rfl ?_)
      refine s_on 13 rfl (congrArg Value.bool (decide_eq_false h5)) (o_move (v := (.pointer (some ⟨db, 0, none⟩))) rfl ?_)
      refine s_on 13 rfl (congrArg Value.bool (decide_eq_false h5)) (o_callf (vs := #[(.pointer (some ⟨db, 0, none⟩))]) ca63 rfl (args1 rfl) (sectors_d (p := p) (la := la) (lo := lo) ((hH.front 1 rfl).front 1 rfl).all2 hd ) ?_)
      rintro _ w8 ⟨rfl, hX6⟩
      refine ⟨_, rfl, ?_⟩
      have hH7 : Has E w8 [sg, [Hp.one pb (.cells #[(.bool p.off), (.bool p.armed), (.int .i64 p.left), (.int .i64 p.uses)] 104 (0, 0))], R] := hX6.of_all2
      refine s_on 13 rfl (congrArg Value.bool (decide_eq_false h5)) (o_gtr (a := n) (b := ((la.length : Nat) : Int)) rfl rfl ?_)
      refine s_op (o_pick_f (u := (.bool (decide (((la.length : Nat) : Int) < n)))) ((rfl : _ = _).trans (congrArg Value.bool (decide_eq_false h5))) rfl ?_)
      refine s_op (o_move (v := (.bool (decide (((la.length : Nat) : Int) < n)))) rfl ?_)
      by_cases h9 : ((la.length : Nat) : Int) < n
      · -- ((la.length : Nat) : Int) < n
        exfalso; omega
      · -- not: ((la.length : Nat) : Int) < n
        refine s_on 19 rfl (congrArg Value.bool (decide_eq_false h9)) (o_move (v := (.int .i64 fr)) rfl ?_)
        refine s_on 19 rfl (congrArg Value.bool (decide_eq_false h9)) (o_move (v := (.pointer (some ⟨db, 0, none⟩))) rfl ?_)
        refine s_on 19 rfl (congrArg Value.bool (decide_eq_false h9)) (o_callf (vs := #[(.pointer (some ⟨db, 0, none⟩))]) ca63 rfl (args1 rfl) (sectors_d (p := p) (la := la) (lo := lo) ((hH7.front 1 rfl).front 1 rfl).all2 hd ) ?_)
        rintro _ w12 ⟨rfl, hX10⟩
        refine ⟨_, rfl, ?_⟩
        have hH11 : Has E w12 [sg, [Hp.one pb (.cells #[(.bool p.off), (.bool p.armed), (.int .i64 p.left), (.int .i64 p.uses)] 104 (0, 0))], R] := hX10.of_all2
        refine s_on 19 rfl (congrArg Value.bool (decide_eq_false h9)) (o_move (v := (.int .i64 n)) rfl ?_)
        refine s_on 19 rfl (congrArg Value.bool (decide_eq_false h9)) (o_sub (a := ((la.length : Nat) : Int)) (b := n) rfl rfl (w64 (by omega) (by omega)) ?_)
        refine s_on 19 rfl (congrArg Value.bool (decide_eq_false h9)) (o_gtr (a := fr) (b := ((la.length : Nat) : Int) - n) rfl rfl ?_)
        refine s_op (o_pick_f (u := (.bool (decide (((la.length : Nat) : Int) - n < fr)))) ((rfl : _ = _).trans (congrArg Value.bool (decide_eq_false h9))) rfl ?_)
        refine s_nil ?_
        refine t_norm (hK3 _ _ ?_)
        refine c_cond rfl (fun h13 => ?_) (fun h13 => ?_)
        · -- ((la.length : Nat) : Int) - n < fr
          exfalso; omega
        · -- not: ((la.length : Nat) : Int) - n < fr
          refine wp_skip ?_
          refine t_norm (hK2 _ _ ?_)
          refine wp_seq_k fun K14 hK14 => ?_
          refine c_region ?_
          refine s_op (o_move (v := (.pointer (some ⟨db, 0, none⟩))) rfl ?_)
          refine s_op (o_move (v := (.int .i64 fr)) rfl ?_)
          refine s_op (o_move (v := (.int .i64 n)) rfl ?_)
          refine s_op (o_sight (v := (.agg #[(.pointer (some ⟨db, 0, none⟩)), (.int .i64 fr), (.int .i64 n)])) (fun _ => by kernel_rfl) ?_)
          refine s_op (o_box (cs := #[(.pointer (some ⟨db, 0, none⟩)), (.int .i64 fr), (.int .i64 n)]) rfl rfl hH11 fun b15 w16 hH17 => ?_)
          refine s_op (o_assign (v := (.pointer (some ⟨b15, 0, none⟩))) rfl ?_)
          refine s_nil ?_
          refine t_norm (hK14 _ _ ?_)
          refine wp_ret ?_
          refine c_ret1 Tryd.results27  (v := (.pointer (some ⟨b15, 0, none⟩))) rfl ?_
          exact ⟨_, rfl, hH17⟩
set_option maxHeartbeats 4000000 in
theorem awake6_c {E w : World} {R : List Hp} (hH : Has E w [R]) :
    Calls Tryd.prog 25 #[] w fun e w' => e = .returned (.bool true) ∧ Has E w' [R] := by
  refine c_enter (args := []) Tryd.func25 rfl Tryd.ntmps25 (by simp) ?_
  refine wp_seq_k fun K1 hK1 => ?_
  refine c_region ?_
  refine s_op (o_assign (v := (.bool false)) rfl ?_)
  refine s_nil ?_
  refine t_norm (hK1 _ _ ?_)
  refine wp_seq_k fun K2 hK2 => ?_
  refine c_region ?_
  refine s_op (o_callf (vs := #[(.pointer none), (.int .i64 3)]) ca26 rfl (args2 rfl rfl) (new_nil hH.all (n := 3) (by decide)) ?_)
  rintro _ w9 ⟨db3, pb4, sg5, rfl, hd6, hX7⟩
  refine ⟨_, rfl, ?_⟩
  have hH8 : Has E w9 [sg5, [Hp.one pb4 (.cells #[(.bool (Pw.mk false false 0 0).off), (.bool (Pw.mk false false 0 0).armed), (.int .i64 (Pw.mk false false 0 0).left), (.int .i64 (Pw.mk false false 0 0).uses)] 104 (0, 0))], R] := hX7.of_all2
  refine s_op (o_callf (vs := #[(.pointer (some ⟨db3, 0, none⟩)), (.int .i64 1), (.int .i64 1)]) ca27 rfl (args3 rfl rfl rfl) (anew_c ((hH8.front 1 rfl).front 1 rfl).all2 hd6 (by omega) (by omega) (by first | omega | (simp; omega) | simp) (by first | omega | (simp; omega) | simp)) ?_)
  rintro _ w13 ⟨ab10, rfl, hX11⟩
  refine ⟨_, rfl, ?_⟩
  have hH12 : Has E w13 [[Hp.one ab10 (.cells #[(.pointer (some ⟨db3, 0, none⟩)), (.int .i64 1), (.int .i64 1)] 65 (0, 0))], sg5, [Hp.one pb4 (.cells #[(.bool (Pw.mk false false 0 0).off), (.bool (Pw.mk false false 0 0).armed), (.int .i64 (Pw.mk false false 0 0).left), (.int .i64 (Pw.mk false false 0 0).uses)] 104 (0, 0))], R] := hX11.of_all3
  refine s_op (o_assign (v := (.pointer (some ⟨ab10, 0, none⟩))) rfl ?_)
  refine s_nil ?_
  refine t_norm (hK2 _ _ ?_)
  refine wp_seq_k fun K14 hK14 => ?_
  refine c_region ?_
  refine s_op (o_move (v := (.pointer (some ⟨ab10, 0, none⟩))) rfl ?_)
  refine s_op (o_buildSlice (ps := #[(0, (S [97, 98])), (1, (S [99]))]) (cells := #[(S [97, 98]), (S [99])]) Tryd.underlying32 ti9 (by decide) (parts2 rfl rfl) (by kernel_rfl) hH12 fun b15 w16 hH17 => ?_)
  refine s_op (o_callf (vs := #[(.pointer (some ⟨ab10, 0, none⟩)), (.int .i64 62), (.slice (some ⟨b15, 0, none⟩) 2 2)]) ca31 rfl (args3 rfl rfl rfl) (aset_yes (((hH17.front 1 rfl).front 3 rfl).front 3 rfl).all3 hd6 Calm.new (by first | omega | decide | (simp; omega)) (full_blank _) (LoOk.nil _) (by omega) (by omega) (by first | omega | (simp; omega) | simp) (by first | omega | (simp; omega) | simp) (at_ := 62) (data := [[97, 98], [99]]) ((sl_lit (f := sV) (l := [[97, 98], [99]]) rfl rfl (by simp)).mono (seg_sub 0 rfl)) (by first | omega | (simp; omega) | simp) (by first | omega | (simp; omega) | simp) ⟨by first | omega | simp, by first | omega | simp⟩ (by first | omega | (simp; omega) | simp)) ?_)
  rintro _ w25 ⟨sg18, p19, rfl, hd20, hlo21, hp22, hX23⟩
  refine ⟨_, rfl, ?_⟩
  have hH24 : Has E w25 [sg18, [Hp.one pb4 (.cells #[(.bool p19.off), (.bool p19.armed), (.int .i64 p19.left), (.int .i64 p19.uses)] 104 (0, 0))], [Hp.one ab10 (.cells #[(.pointer (some ⟨db3, 0, none⟩)), (.int .i64 1), (.int .i64 1)] 65 (0, 0))], [Hp.one b15 (.cells #[(S [97, 98]), (S [99])] 9 (0, 0))], R] := hX23.of_all3
  refine s_op (o_assign (v := (.int .i64 (0 : Int))) rfl ?_)
  refine s_nil ?_
  refine t_norm (hK14 _ _ ?_)
  refine wp_seq_k fun K26 hK26 => ?_
  refine c_region ?_
  refine s_op (o_move (v := (.pointer (some ⟨ab10, 0, none⟩))) rfl ?_)
  refine s_op (o_callf (vs := #[(.pointer (some ⟨ab10, 0, none⟩)), (.int .i64 0), (.int .i64 64)]) ca32 rfl (args3 rfl rfl rfl) (aget_c (((hH24.front 2 rfl).front 2 rfl).front 2 rfl).all3 hd20 hp22 (by first | omega | decide | (simp; omega)) (full_blank _) hlo21 (by omega) (by omega) (by first | omega | (simp; omega) | simp) (by first | omega | (simp; omega) | simp) (at_ := 0) ⟨by omega, by omega⟩ (size := 64) ⟨by omega, by omega⟩) ?_)
  rintro _ w29 ⟨rfl, hX27⟩
  refine ⟨_, rfl, ?_⟩
  have hH28 : Has E w29 [sg18, [Hp.one pb4 (.cells #[(.bool p19.off), (.bool p19.armed), (.int .i64 p19.left), (.int .i64 p19.uses)] 104 (0, 0))], [Hp.one ab10 (.cells #[(.pointer (some ⟨db3, 0, none⟩)), (.int .i64 1), (.int .i64 1)] 65 (0, 0))], [Hp.one b15 (.cells #[(S [97, 98]), (S [99])] 9 (0, 0))], R] := hX27.of_all3
  refine s_op (o_move (v := (.tuple #[(S (getP (List.replicate 3 blankS) (setP (List.replicate 3 blankS) (allP 1 (1 * 64) (62 % (1 * 64)) (([[97, 98], [99]].flatten).length : Int)) ([] : List (Int × Bs)) ([[97, 98], [99]].flatten)) (allP 1 (1 * 64) (0 % (1 * 64)) 64))), (.int .i64 (0 : Int))])) rfl ?_)
  refine s_op (o_extract (v := (S (getP (List.replicate 3 blankS) (setP (List.replicate 3 blankS) (allP 1 (1 * 64) (62 % (1 * 64)) (([[97, 98], [99]].flatten).length : Int)) ([] : List (Int × Bs)) ([[97, 98], [99]].flatten)) (allP 1 (1 * 64) (0 % (1 * 64)) 64)))) rfl rfl ?_)
  refine s_op (o_extract (v := (.int .i64 (0 : Int))) rfl rfl ?_)
  refine s_op (o_assign (v := (S (getP (List.replicate 3 blankS) (setP (List.replicate 3 blankS) (allP 1 (1 * 64) (62 % (1 * 64)) (([[97, 98], [99]].flatten).length : Int)) ([] : List (Int × Bs)) ([[97, 98], [99]].flatten)) (allP 1 (1 * 64) (0 % (1 * 64)) 64)))) rfl ?_)
  refine s_op (o_assign (v := (.int .i64 (0 : Int))) rfl ?_)
  refine s_nil ?_
  refine t_norm (hK26 _ _ ?_)
  refine wp_seq_k fun K30 hK30 => ?_
  refine c_region ?_
  refine s_op (o_move (v := (.pointer (some ⟨ab10, 0, none⟩))) rfl ?_)
  refine s_op (o_pnnil (p := some _) Tryd.underlying52 rfl rfl ?_)
  refine s_op (o_move (v := (.bool true)) rfl ?_)
  refine s_on 17 rfl rfl (o_move (v := (.int .i64 (0 : Int))) rfl ?_)
  refine s_on 17 rfl rfl (o_eql (a := (0 : Int)) (b := 0) rfl rfl ?_)
  refine s_op (o_pick_t (u := (.bool (decide ((0 : Int) = 0)))) rfl rfl ?_)
  refine s_op (o_move (v := (.bool (decide ((0 : Int) = 0)))) rfl ?_)
  by_cases h31 : (0 : Int) = 0
  · -- (0 : Int) = 0
    refine s_on 21 rfl (congrArg Value.bool (decide_eq_true h31)) (o_move (v := (.int .i64 (0 : Int))) rfl ?_)
    refine s_on 21 rfl (congrArg Value.bool (decide_eq_true h31)) (o_eql (a := (0 : Int)) (b := 0) rfl rfl ?_)
    refine s_op (o_pick_t (u := (.bool (decide ((0 : Int) = 0)))) ((rfl : _ = _).trans (congrArg Value.bool (decide_eq_true h31))) rfl ?_)
    refine s_op (o_move (v := (.bool (decide ((0 : Int) = 0)))) rfl ?_)
    refine s_on 25 rfl (congrArg Value.bool (decide_eq_true h31)) (o_move (v := (S (getP (List.replicate 3 blankS) (setP (List.replicate 3 blankS) (allP 1 (1 * 64) (62 % (1 * 64)) (([[97, 98], [99]].flatten).length : Int)) ([] : List (Int × Bs)) ([[97, 98], [99]].flatten)) (allP 1 (1 * 64) (0 % (1 * 64)) 64)))) rfl ?_)
    refine s_on 25 rfl (congrArg Value.bool (decide_eq_true h31)) (o_slen Tryd.underlying9 rfl ?_)
    refine s_on 25 rfl (congrArg Value.bool (decide_eq_true h31)) (o_eql (a := ((getP (List.replicate 3 blankS) (setP (List.replicate 3 blankS) (allP 1 (1 * 64) (62 % (1 * 64)) (([[97, 98], [99]].flatten).length : Int)) ([] : List (Int × Bs)) ([[97, 98], [99]].flatten)) (allP 1 (1 * 64) (0 % (1 * 64)) 64)).length : Int)) (b := 64) rfl rfl ?_)
    refine s_op (o_pick_t (u := (.bool (decide (((getP (List.replicate 3 blankS) (setP (List.replicate 3 blankS) (allP 1 (1 * 64) (62 % (1 * 64)) (([[97, 98], [99]].flatten).length : Int)) ([] : List (Int × Bs)) ([[97, 98], [99]].flatten)) (allP 1 (1 * 64) (0 % (1 * 64)) 64)).length : Int) = 64)))) ((rfl : _ = _).trans (congrArg Value.bool (decide_eq_true h31))) rfl ?_)
    refine s_op (o_move (v := (.bool (decide (((getP (List.replicate 3 blankS) (setP (List.replicate 3 blankS) (allP 1 (1 * 64) (62 % (1 * 64)) (([[97, 98], [99]].flatten).length : Int)) ([] : List (Int × Bs)) ([[97, 98], [99]].flatten)) (allP 1 (1 * 64) (0 % (1 * 64)) 64)).length : Int) = 64)))) rfl ?_)
    by_cases h32 : ((getP (List.replicate 3 blankS) (setP (List.replicate 3 blankS) (allP 1 (1 * 64) (62 % (1 * 64)) (([[97, 98], [99]].flatten).length : Int)) ([] : List (Int × Bs)) ([[97, 98], [99]].flatten)) (allP 1 (1 * 64) (0 % (1 * 64)) 64)).length : Int) = 64
    · -- ((getP (List.replicate 3 blankS) (setP (List.replicate 3 blankS) (allP 1 (1 * 64) (62 % (1 * 64)) (([[97, 98], [99]].flatten).length : Int)) ([] : List (Int × Bs)) ([[97, 98], [99]].flatten)) (allP 1 (1 * 64) (0 % (1 * 64)) 64)).length : Int) = 64
      refine s_on 30 rfl (congrArg Value.bool (decide_eq_true h32)) (o_move (v := (S (getP (List.replicate 3 blankS) (setP (List.replicate 3 blankS) (allP 1 (1 * 64) (62 % (1 * 64)) (([[97, 98], [99]].flatten).length : Int)) ([] : List (Int × Bs)) ([[97, 98], [99]].flatten)) (allP 1 (1 * 64) (0 % (1 * 64)) 64)))) rfl ?_)
      obtain ⟨c33, hx34⟩ : ∃ x_, (getP (List.replicate 3 blankS) (setP (List.replicate 3 blankS) (allP 1 (1 * 64) (62 % (1 * 64)) (([[97, 98], [99]].flatten).length : Int)) ([] : List (Int × Bs)) ([[97, 98], [99]].flatten)) (allP 1 (1 * 64) (0 % (1 * 64)) 64))[((0 : Int)).toNat]? = some x_ := get_some (by decide +kernel)
      have c33_lt := c33.toNat_lt
      refine s_on 30 rfl (congrArg Value.bool (decide_eq_true h32)) (o_sidx Tryd.underlying9 rfl rfl (by omega) hx34 ?_)
      refine s_on 30 rfl (congrArg Value.bool (decide_eq_true h32)) (o_eql (a := (c33.toNat : Int)) (b := 99) rfl rfl ?_)
      refine s_op (o_pick_t (u := (.bool (decide ((c33.toNat : Int) = 99)))) ((rfl : _ = _).trans (congrArg Value.bool (decide_eq_true h32))) rfl ?_)
      refine s_op (o_move (v := (.bool (decide ((c33.toNat : Int) = 99)))) rfl ?_)
      by_cases h35 : (c33.toNat : Int) = 99
      · -- (c33.toNat : Int) = 99
        refine s_on 35 rfl (congrArg Value.bool (decide_eq_true h35)) (o_move (v := (S (getP (List.replicate 3 blankS) (setP (List.replicate 3 blankS) (allP 1 (1 * 64) (62 % (1 * 64)) (([[97, 98], [99]].flatten).length : Int)) ([] : List (Int × Bs)) ([[97, 98], [99]].flatten)) (allP 1 (1 * 64) (0 % (1 * 64)) 64)))) rfl ?_)
        refine s_on 35 rfl (congrArg Value.bool (decide_eq_true h35)) (o_ssl_l Tryd.underlying9 rfl rfl (by omega) (by decide +kernel) ?_)
        refine s_on 35 rfl (congrArg Value.bool (decide_eq_true h35)) (o_seql (a := (getP (List.replicate 3 blankS) (setP (List.replicate 3 blankS) (allP 1 (1 * 64) (62 % (1 * 64)) (([[97, 98], [99]].flatten).length : Int)) ([] : List (Int × Bs)) ([[97, 98], [99]].flatten)) (allP 1 (1 * 64) (0 % (1 * 64)) 64)).drop 62) (b := [97, 98]) rfl rfl ?_)
        refine s_op (o_pick_t (u := (.bool (decide ((getP (List.replicate 3 blankS) (setP (List.replicate 3 blankS) (allP 1 (1 * 64) (62 % (1 * 64)) (([[97, 98], [99]].flatten).length : Int)) ([] : List (Int × Bs)) ([[97, 98], [99]].flatten)) (allP 1 (1 * 64) (0 % (1 * 64)) 64)).drop 62 = [97, 98])))) ((rfl : _ = _).trans (congrArg Value.bool (decide_eq_true h35))) rfl ?_)
        refine s_op (o_move (v := (.bool (decide ((getP (List.replicate 3 blankS) (setP (List.replicate 3 blankS) (allP 1 (1 * 64) (62 % (1 * 64)) (([[97, 98], [99]].flatten).length : Int)) ([] : List (Int × Bs)) ([[97, 98], [99]].flatten)) (allP 1 (1 * 64) (0 % (1 * 64)) 64)).drop 62 = [97, 98])))) rfl ?_)
        by_cases h36 : (getP (List.replicate 3 blankS) (setP (List.replicate 3 blankS) (allP 1 (1 * 64) (62 % (1 * 64)) (([[97, 98], [99]].flatten).length : Int)) ([] : List (Int × Bs)) ([[97, 98], [99]].flatten)) (allP 1 (1 * 64) (0 % (1 * 64)) 64)).drop 62 = [97, 98]
        · -- (getP (List.replicate 3 blankS) (setP (List.replicate 3 blankS) (allP 1 (1 * 64) (62 % (1 * 64)) (([[97, 98], [99]].flatten).length : Int)) ([] : List (Int × Bs)) ([[97, 98], [99]].flatten)) (allP 1 (1 * 64) (0 % (1 * 64)) 64)).drop 62 = [97, 98]
          refine s_on 40 rfl (congrArg Value.bool (decide_eq_true h36)) (o_move (v := (.pointer (some ⟨ab10, 0, none⟩))) rfl ?_)
          refine s_on 40 rfl (congrArg Value.bool (decide_eq_true h36)) (o_callf (vs := #[(.pointer (some ⟨ab10, 0, none⟩))]) ca28 rfl (args1 rfl) (alen_c (hH28.front 2 rfl).all1 (by decide)) ?_)
          rintro _ w39 ⟨rfl, hX37⟩
          refine ⟨_, rfl, ?_⟩
          have hH38 : Has E w39 [[Hp.one ab10 (.cells #[(.pointer (some ⟨db3, 0, none⟩)), (.int .i64 1), (.int .i64 1)] 65 (0, 0))], sg18, [Hp.one pb4 (.cells #[(.bool p19.off), (.bool p19.armed), (.int .i64 p19.left), (.int .i64 p19.uses)] 104 (0, 0))], [Hp.one b15 (.cells #[(S [97, 98]), (S [99])] 9 (0, 0))], R] := hX37.of_all1
          refine s_on 40 rfl (congrArg Value.bool (decide_eq_true h36)) (o_eql (a := 1 * 64) (b := 64) rfl rfl ?_)
          refine s_op (o_pick_t (u := (.bool (decide (1 * 64 = 64)))) ((rfl : _ = _).trans (congrArg Value.bool (decide_eq_true h36))) rfl ?_)
          refine s_op (o_assign (v := (.bool (decide (1 * 64 = 64)))) rfl ?_)
          refine s_nil ?_
          refine t_norm (hK30 _ _ ?_)
          refine wp_ret ?_
          refine c_ret1 Tryd.results25  (v := (.bool (decide (1 * 64 = 64)))) rfl ?_
          have hH40 : Has E w39 [R] := (hH38.front 4 rfl).first 1 rfl
          exact ⟨by first | rfl | rw [decide_eq_true (by decide)], hH40⟩
        · -- not: (getP (List.replicate 3 blankS) (setP (List.replicate 3 blankS) (allP 1 (1 * 64) (62 % (1 * 64)) (([[97, 98], [99]].flatten).length : Int)) ([] : List (Int × Bs)) ([[97, 98], [99]].flatten)) (allP 1 (1 * 64) (0 % (1 * 64)) 64)).drop 62 = [97, 98]
          exact absurd (by decide +kernel) h36
      · -- not: (c33.toNat : Int) = 99
        exact absurd (by have g_ := hx34; rw [show ((getP (List.replicate 3 blankS) (setP (List.replicate 3 blankS) (allP 1 (1 * 64) (62 % (1 * 64)) (([[97, 98], [99]].flatten).length : Int)) ([] : List (Int × Bs)) ([[97, 98], [99]].flatten)) (allP 1 (1 * 64) (0 % (1 * 64)) 64)))[((0 : Int)).toNat]? = some 99 from by decide +kernel] at g_; rw [← Option.some.inj g_]; rfl) h35
    · -- not: ((getP (List.replicate 3 blankS) (setP (List.replicate 3 blankS) (allP 1 (1 * 64) (62 % (1 * 64)) (([[97, 98], [99]].flatten).length : Int)) ([] : List (Int × Bs)) ([[97, 98], [99]].flatten)) (allP 1 (1 * 64) (0 % (1 * 64)) 64)).length : Int) = 64
      exact absurd (by decide +kernel) h32
  · -- not: (0 : Int) = 0
    exact absurd (by decide +kernel) h31
end Go.Q
namespace Go.Q
/-- the bytes of an area, told by a row -/
def Cn (now : Bs) (la : List Bs) (lo : List (Int × Bs)) (fr n : Nat) : Prop := now.length = n * 64 ∧ ∀ i, i < n * 64 → now[i]? = (nowAt la lo (fr + i / 64))[i % 64]?
def rdR (now : Bs) (a L k : Nat) : Bs := (List.range k).map fun j => (now[(a + j) % L]?).getD 0
def wrR (now : Bs) (a L : Nat) (s : Bs) (k : Nat) : Bs := (List.range k).foldl (fun c j => c.set ((a + j) % L) ((s[j]?).getD 0)) now
theorem rdR_succ (now : Bs) (a L k : Nat) : rdR now a L (k + 1) = rdR now a L k ++ [(now[(a + k) % L]?).getD 0] := by
  unfold rdR; rw [List.range_succ, List.map_append]; rfl
theorem wrR_succ (now : Bs) (a L : Nat) (s : Bs) (k : Nat) : wrR now a L s (k + 1) = (wrR now a L s k).set ((a + k) % L) ((s[k]?).getD 0) := by
  unfold wrR; rw [List.range_succ, List.foldl_append]; rfl
theorem wrR_len (now : Bs) (a L : Nat) (s : Bs) : ∀ k, (wrR now a L s k).length = now.length
  | 0 => rfl
  | k + 1 => by rw [wrR_succ, List.length_set, wrR_len]
theorem rdR_len (now : Bs) (a L k : Nat) : (rdR now a L k).length = k := by unfold rdR; simp
theorem rdR_add (now : Bs) (a L d : Nat) : ∀ k, rdR now a L (d + k) = rdR now a L d ++ rdR now ((a + d) % L) L k
  | 0 => by simp [rdR]
  | k + 1 => by
    rw [← Nat.add_assoc, rdR_succ, rdR_add now a L d k, rdR_succ, List.append_assoc]
    rw [show ((a + d) % L + k) % L = (a + (d + k)) % L by rw [Nat.mod_add_mod, Nat.add_assoc]]
theorem wrR_add (now : Bs) (a L : Nat) (s : Bs) (d : Nat) : ∀ k, wrR now a L s (d + k) = wrR (wrR now a L s d) ((a + d) % L) L (s.drop d) k
  | 0 => rfl
  | k + 1 => by
    rw [← Nat.add_assoc, wrR_succ, wrR_add now a L s d k, wrR_succ]
    rw [show ((a + d) % L + k) % L = (a + (d + k)) % L by rw [Nat.mod_add_mod, Nat.add_assoc], List.getElem?_drop]
theorem rdR_at (now : Bs) {a L k j : Nat} (hj : j < k) : (rdR now a L k)[j]? = some ((now[(a + j) % L]?).getD 0) := by
  unfold rdR; rw [List.getElem?_map, List.getElem?_range hj]; rfl
/-- bytes that don't go round -/
theorem wrR_at {now : Bs} {a L : Nat} {s : Bs} (hL : now.length = L) : ∀ k, a + k ≤ L → ∀ i, i < L → (wrR now a L s k)[i]? = if a ≤ i ∧ i < a + k then some ((s[i - a]?).getD 0) else now[i]?
  | 0, _, i, _ => by rw [if_neg (by omega)]; rfl
  | k + 1, hk, i, hi => by
    rw [wrR_succ, Nat.mod_eq_of_lt (by omega), List.getElem?_set, wrR_len]
    by_cases e : a + k = i
    · rw [if_pos e, if_pos (by omega), if_pos (by omega), ← e, Nat.add_sub_cancel_left]
    · rw [if_neg e, wrR_at hL k (by omega) i hi]
      by_cases g : a ≤ i ∧ i < a + k
      · rw [if_pos g, if_pos (by omega)]
      · rw [if_neg g, if_neg (by omega)]
theorem piece1_nat {fr a z : Nat} (hz : 0 < z) : piece1 (fr : Int) (a : Int) (z : Int) = ⟨((fr + a / 64 : Nat) : Int), ((a % 64 : Nat) : Int), ((min (a % 64 + z) 64 : Nat) : Int)⟩ := by
  unfold piece1; congr 1 <;> omega
def dN (a z : Nat) : Nat := min (a % 64 + z) 64 - a % 64
theorem dN_ok {a z : Nat} (hz : 0 < z) : 0 < dN a z ∧ dN a z ≤ z ∧ a % 64 + dN a z ≤ 64 ∧ min (a % 64 + z) 64 = a % 64 + dN a z := by
  unfold dN; omega
theorem pieces_nat {fr L a z f : Nat} (hz : 0 < z) : piecesS (fr : Int) (L : Int) (f + 1) (a : Int) (z : Int) = ⟨((fr + a / 64 : Nat) : Int), ((a % 64 : Nat) : Int), ((a % 64 + dN a z : Nat) : Int)⟩ :: piecesS (fr : Int) (L : Int) f (((a + dN a z) % L : Nat) : Int) ((z - dN a z : Nat) : Int) := by
  obtain ⟨h1, h2, h3, h4⟩ := dN_ok (a := a) hz
  rw [piecesS, if_neg (by omega), piece1_nat hz, h4]
  simp only
  rw [show (a : Int) + (((a % 64 + dN a z : Nat) : Int) - ((a % 64 : Nat) : Int)) = ((a + dN a z : Nat) : Int) by omega, show (z : Int) - (((a % 64 + dN a z : Nat) : Int) - ((a % 64 : Nat) : Int)) = ((z - dN a z : Nat) : Int) by omega]
  rfl
theorem ring_get {now : Bs} {la : List Bs} {lo : List (Int × Bs)} {fr n : Nat} (h : Cn now la lo fr n) (h64 : ∀ j, j < n → (nowAt la lo (fr + j)).length = 64) : ∀ (f a z : Nat), a < n * 64 → z ≤ f → getP la lo (piecesS (fr : Int) ((n * 64 : Nat) : Int) f (a : Int) (z : Int)) = rdR now a (n * 64) z
  | f, a, 0, _, _ => by cases f <;> rfl
  | 0, a, z + 1, _, h => by omega
  | f + 1, a, z + 1, ha, hf => by
    obtain ⟨h1, h2, h3, h4⟩ := dN_ok (a := a) (z := z + 1) (by omega)
    rw [pieces_nat (by omega)]
    have hr := ring_get h h64 f ((a + dN a (z + 1)) % (n * 64)) (z + 1 - dN a (z + 1)) (Nat.mod_lt _ (by omega)) (by omega)
    unfold getP at hr ⊢
    rw [List.flatMap_cons, hr]
    have hs : rdR now a (n * 64) (z + 1) = rdR now a (n * 64) (dN a (z + 1)) ++ rdR now ((a + dN a (z + 1)) % (n * 64)) (n * 64) (z + 1 - dN a (z + 1)) := by
      rw [← rdR_add]; congr 1; omega
    rw [hs]
    congr 1
    have hlen := h64 (a / 64) (by omega)
    unfold part
    simp only [Int.toNat_natCast]
    refine List.ext_getElem? fun j => ?_
    rw [List.getElem?_drop, List.getElem?_take]
    by_cases hj : j < dN a (z + 1)
    · rw [if_pos (by omega), rdR_at now hj, Nat.mod_eq_of_lt (show a + j < n * 64 by omega), h.2 _ (by omega), show (a + j) / 64 = a / 64 by omega, show (a + j) % 64 = a % 64 + j by omega, List.getElem?_eq_getElem (by omega)]; rfl
    · rw [if_neg (by omega), List.getElem?_eq_none (by rw [rdR_len]; omega)]
theorem nowAt_put {la : List Bs} {lo : List (Int × Bs)} {s : Bs} {m j : Nat} : nowAt la (putB lo (m : Int) s) j = if j = m then s else nowAt la lo j := by
  unfold nowAt
  rw [getB_put]
  by_cases e : j = m
  · subst e; rw [if_pos rfl, if_pos rfl]; rfl
  · rw [if_neg (by omega), if_neg e]
theorem put1_len2 {la : List Bs} {lo : List (Int × Bs)} {m r d : Nat} {all : Bs} (hl : (nowAt la lo m).length = 64) (hd : r + d ≤ 64) (ha : d ≤ all.length) : (put1 la lo ⟨(m : Int), (r : Int), ((r + d : Nat) : Int)⟩ all).length = 64 := by
  unfold put1
  simp only [Int.toNat_natCast, List.length_append, List.length_take, List.length_drop, hl]; omega
theorem ring_set1 {now : Bs} {la : List Bs} {lo : List (Int × Bs)} {fr n a d : Nat} {all : Bs} (h : Cn now la lo fr n) (h64 : ∀ j, j < n → (nowAt la lo (fr + j)).length = 64) (ha : a < n * 64) (hd : a % 64 + d ≤ 64) (hal : d ≤ all.length) :
    Cn (wrR now a (n * 64) all d) la (putB lo ((fr + a / 64 : Nat) : Int) (fillS (put1 la lo ⟨((fr + a / 64 : Nat) : Int), ((a % 64 : Nat) : Int), ((a % 64 + d : Nat) : Int)⟩ all))) fr n := by
  have hl := h64 (a / 64) (by omega)
  have hp := put1_len2 (la := la) (lo := lo) (all := all) hl hd hal
  have hfill : ∀ s : Bs, s.length = 64 → fillS s = s := fun s hs => by unfold fillS; rw [hs, List.drop_eq_nil_of_le (by rw [blank_len]; omega), List.append_nil]
  rw [hfill _ hp]
  refine ⟨by rw [wrR_len]; exact h.1, fun i hi => ?_⟩
  rw [wrR_at h.1 d (by omega) i hi, nowAt_put]
  by_cases e : i / 64 = a / 64
  · rw [if_pos (show fr + i / 64 = fr + a / 64 by omega)]
    unfold put1
    simp only [Int.toNat_natCast]
    by_cases g : a ≤ i ∧ i < a + d
    · rw [if_pos g, List.getElem?_append_right (by rw [List.length_take]; omega), List.length_take, hl, List.getElem?_append_left (by rw [List.length_take]; omega), List.getElem?_take, if_pos (by omega)]
      rw [show i % 64 - min (a % 64) 64 = i - a by omega, List.getElem?_eq_getElem (by omega)]; rfl
    · rw [if_neg g, h.2 i hi, e]
      by_cases g2 : i < a
      · rw [List.getElem?_append_left (by rw [List.length_take]; omega), List.getElem?_take, if_pos (by omega)]
      · rw [List.getElem?_append_right (by rw [List.length_take]; omega), List.length_take, hl, List.getElem?_append_right (by rw [List.length_take]; omega), List.length_take, List.getElem?_drop]
        congr 1; omega
  · rw [if_neg (show ¬ (a ≤ i ∧ i < a + d) by omega), if_neg (show ¬ fr + i / 64 = fr + a / 64 by omega), h.2 i hi]
theorem ring_set {la : List Bs} {fr n : Nat} : ∀ (f a : Nat) (z : Nat) (now : Bs) (lo : List (Int × Bs)) (all : Bs), Cn now la lo fr n → (∀ j, j < n → (nowAt la lo (fr + j)).length = 64) → a < n * 64 → z ≤ f → z ≤ all.length →
    Cn (wrR now a (n * 64) all z) la (setP la (piecesS (fr : Int) ((n * 64 : Nat) : Int) f (a : Int) (z : Int)) lo all) fr n
  | f, a, 0, now, lo, all, h, _, _, _, _ => by cases f <;> exact h
  | 0, a, z + 1, _, _, _, _, _, _, h, _ => by omega
  | f + 1, a, z + 1, now, lo, all, h, h64, ha, hf, hz => by
    obtain ⟨h1, h2, h3, h4⟩ := dN_ok (a := a) (z := z + 1) (by omega)
    rw [pieces_nat (by omega), setP]
    have hs : wrR now a (n * 64) all (z + 1) = wrR (wrR now a (n * 64) all (dN a (z + 1))) ((a + dN a (z + 1)) % (n * 64)) (n * 64) (all.drop (dN a (z + 1))) (z + 1 - dN a (z + 1)) := by
      rw [← wrR_add]; congr 1; omega
    rw [hs]
    simp only
    rw [show (((a % 64 + dN a (z + 1) : Nat) : Int) - ((a % 64 : Nat) : Int)).toNat = dN a (z + 1) by omega]
    refine ring_set f _ _ _ _ _ (ring_set1 h h64 ha h3 (by omega)) (fun j hj => ?_) (Nat.mod_lt _ (by omega)) (by omega) (by rw [List.length_drop]; omega)
    rw [nowAt_put]
    split
    · rw [fill_len (by rw [put1_len2 (h64 _ (by omega)) h3 (by omega)]; omega)]
    · exact h64 j hj
theorem area_now (la : List Bs) (lo : List (Int × Bs)) (fr n : Nat) (h64 : ∀ j, j < n → (nowAt la lo (fr + j)).length = 64) : ∃ now, Cn now la lo fr n := by
  refine ⟨(List.range (n * 64)).map fun i => ((nowAt la lo (fr + i / 64))[i % 64]?).getD 0, by simp, fun i hi => ?_⟩
  have hl := h64 (i / 64) (by omega)
  rw [List.getElem?_map, List.getElem?_range hi, Option.map_some, List.getElem?_eq_getElem (by omega)]; rfl
theorem area_64 {la : List Bs} {lo : List (Int × Bs)} (h64 : Full64 la) (hlo : LoOk lo la.length) {fr n : Int} (hfr : 0 ≤ fr) (hn : 1 ≤ n) (hfn : fr + n ≤ la.length) : ∀ j, j < n.toNat → (nowAt la lo (fr.toNat + j)).length = 64 := fun j hj => nowAt_len h64 hlo (by omega)
theorem getP_now {now : Bs} {la : List Bs} {lo : List (Int × Bs)} {fr n a z : Int} (h : Cn now la lo fr.toNat n.toNat) (h64 : ∀ j, j < n.toNat → (nowAt la lo (fr.toNat + j)).length = 64) (hfr : 0 ≤ fr) (hn : 1 ≤ n) (ha : 0 ≤ a ∧ a < n * 64) (hz : 0 ≤ z) :
    getP la lo (allP fr (n * 64) a z) = rdR now a.toNat (n.toNat * 64) z.toNat := by
  have := ring_get h h64 z.toNat a.toNat z.toNat (by omega) (Nat.le_refl _)
  unfold allP
  rw [show ((n.toNat * 64 : Nat) : Int) = n * 64 by omega, show ((fr.toNat : Nat) : Int) = fr by omega, show ((a.toNat : Nat) : Int) = a by omega, show ((z.toNat : Nat) : Int) = z by omega] at this
  exact this
theorem getP_len {la : List Bs} {lo : List (Int × Bs)} {fr n a z : Int} (h64 : Full64 la) (hlo : LoOk lo la.length) (hfr : 0 ≤ fr) (hn : 1 ≤ n) (hfn : fr + n ≤ la.length) (ha : 0 ≤ a ∧ a < n * 64) (hz : 0 ≤ z) : (getP la lo (allP fr (n * 64) a z)).length = z.toNat := by
  obtain ⟨now, h⟩ := area_now la lo fr.toNat n.toNat (area_64 h64 hlo hfr hn hfn)
  rw [getP_now h (area_64 h64 hlo hfr hn hfn) hfr hn ha hz, rdR_len]
theorem rdR_all {now : Bs} {L : Nat} (h : now.length = L) : rdR now 0 L L = now := by
  refine List.ext_getElem? fun i => ?_
  by_cases hi : i < L
  · rw [rdR_at now hi, Nat.zero_add, Nat.mod_eq_of_lt hi, List.getElem?_eq_getElem (by omega)]; rfl
  · rw [List.getElem?_eq_none (by rw [rdR_len]; omega), List.getElem?_eq_none (by omega)]
theorem getP_all {now : Bs} {la : List Bs} {lo : List (Int × Bs)} {fr n : Int} (h : Cn now la lo fr.toNat n.toNat) (h64 : ∀ j, j < n.toNat → (nowAt la lo (fr.toNat + j)).length = 64) (hfr : 0 ≤ fr) (hn : 1 ≤ n) : getP la lo (allP fr (n * 64) (0 % (n * 64)) (n * 64)) = now := by
  rw [Int.zero_emod, getP_now h h64 hfr hn ⟨by omega, by omega⟩ (by omega), show (n * 64).toNat = n.toNat * 64 by omega]
  exact rdR_all h.1
theorem setP_now {now : Bs} {la : List Bs} {lo : List (Int × Bs)} {fr n a : Int} {all : Bs} (h : Cn now la lo fr.toNat n.toNat) (h64 : ∀ j, j < n.toNat → (nowAt la lo (fr.toNat + j)).length = 64) (hfr : 0 ≤ fr) (hn : 1 ≤ n) (ha : 0 ≤ a ∧ a < n * 64) :
    Cn (wrR now a.toNat (n.toNat * 64) all all.length) la (setP la (allP fr (n * 64) a (all.length : Int)) lo all) fr.toNat n.toNat := by
  have := ring_set (la := la) (fr := fr.toNat) (n := n.toNat) all.length a.toNat all.length now lo all h h64 (by omega) (Nat.le_refl _) (Nat.le_refl _)
  unfold allP
  rw [show ((n.toNat * 64 : Nat) : Int) = n * 64 by omega, show ((fr.toNat : Nat) : Int) = fr by omega, show ((a.toNat : Nat) : Int) = a by omega] at this
  exact this
theorem setP_out {la : List Bs} {lo : List (Int × Bs)} {fr n a : Int} {all : Bs} {j : Nat} (hn : 1 ≤ n) (ha : 0 ≤ a ∧ a < n * 64) (hj : (j : Int) < fr ∨ fr + n ≤ (j : Int)) : nowAt la (setP la (allP fr (n * 64) a (all.length : Int)) lo all) j = nowAt la lo j :=
  setP_other _ _ _ fun p hp => by
    obtain ⟨h1, h2, _⟩ := pieces_ok (fr := fr) (n := n) (by omega) _ _ _ ha.1 ha.2 p hp
    omega
theorem cn_congr {now : Bs} {la la' : List Bs} {lo lo' : List (Int × Bs)} {fr n : Nat} (h : Cn now la lo fr n) (he : ∀ j, nowAt la' lo' j = nowAt la lo j) : Cn now la' lo' fr n := ⟨h.1, fun i hi => by rw [he]; exact h.2 i hi⟩
theorem cn_blank {k fr n : Nat} (h : fr + n ≤ k) : Cn (List.replicate (n * 64) 0) (List.replicate k blankS) [] fr n := by
  refine ⟨by rw [List.length_replicate], fun i hi => ?_⟩
  unfold nowAt
  rw [show getB ([] : List (Int × Bs)) ((fr + i / 64 : Nat) : Int) = none from rfl, Option.getD_none, List.getElem?_replicate, if_pos hi, List.getElem?_replicate, if_pos (by omega)]
  show some 0 = (List.replicate 64 (0 : UInt8))[i % 64]?
  rw [List.getElem?_replicate, if_pos (by omega)]
/-- behind a Sync the sectors are as they were -/
theorem sync_nowAt {p : Pw} {k : Nat} (h : Calm p k) {la : List Bs} {lo : List (Int × Bs)} (hlo : LoOk lo la.length) (j : Nat) (hj : j < la.length) : nowAt (syncA p la lo) (syncO p lo) j = nowAt la lo j := by
  obtain ⟨_, h1, h2⟩ := sync_calm h la lo
  rw [h1, h2, now_sync hlo]
  show Option.getD none _ = _
  rw [Option.getD_none, now_get hj]; rfl
theorem sync_len {p : Pw} {k : Nat} (h : Calm p k) {la : List Bs} {lo : List (Int × Bs)} (hlo : LoOk lo la.length) : (syncA p la lo).length = la.length := by
  obtain ⟨_, h1, _⟩ := sync_calm h la lo
  rw [h1, now_sync hlo, now_len]
theorem cn_sync {p : Pw} {k : Nat} (h : Calm p k) {now : Bs} {la : List Bs} {lo : List (Int × Bs)} (hlo : LoOk lo la.length) {fr n : Nat} (hfn : fr + n ≤ la.length) (hc : Cn now la lo fr n) : Cn now (syncA p la lo) (syncO p lo) fr n :=
  ⟨hc.1, fun i hi => by rw [sync_nowAt h hlo _ (by omega)]; exact hc.2 i hi⟩
theorem full_sync {p : Pw} {k : Nat} (h : Calm p k) {la : List Bs} {lo : List (Int × Bs)} (hlo : LoOk lo la.length) (hf : Full64 la) : Full64 (syncA p la lo) := by
  obtain ⟨_, h1, _⟩ := sync_calm h la lo
  rw [h1, now_sync hlo]
  intro s hs
  obtain ⟨j, hj, rfl⟩ := List.mem_map.1 hs
  exact nowAt_len hf hlo (List.mem_range.1 hj)
theorem ok_sync {p : Pw} {k : Nat} (h : Calm p k) {la : List Bs} {lo : List (Int × Bs)} : LoOk (syncO p lo) (syncA p la lo).length := by
  obtain ⟨_, _, h2⟩ := sync_calm h la lo
  rw [h2]; exact LoOk.nil _
theorem idxN {a n : Int} {kk : Nat} (ha : 0 ≤ a) (hn : 1 ≤ n) : ((a % (64 * n) + (kk : Int)) % (64 * n)).toNat = ((a % (n * 64)).toNat + kk) % (n.toNat * 64) := by
  rw [show 64 * n = n * 64 by omega, Int.toNat_emod (by have := Int.emod_nonneg a (show n * 64 ≠ 0 by omega); omega) (by omega), show (n * 64).toNat = n.toNat * 64 by omega]
  congr 1
  have := Int.emod_nonneg a (show n * 64 ≠ 0 by omega)
  omega
theorem wr_step {now nb s : Bs} {a L kk ix : Nat} {c : UInt8} (h : nb = wrR now a L s kk) (hi : ix = (a + kk) % L) (hc : s[kk]? = some c) : nb.set ix c = wrR now a L s (kk + 1) := by
  rw [wrR_succ, ← h, hi, hc]; rfl
theorem rd_step {now acc : Bs} {a L kk ix : Nat} {c : UInt8} (h : acc = rdR now a L kk) (hi : ix = (a + kk) % L) (hc : now[ix]? = some c) : acc ++ [c] = rdR now a L (kk + 1) := by
  rw [rdR_succ, ← h, ← hi, hc]; rfl
end Go.Q
namespace Go.Q
open Go.Proofs Go.Shelf
set_option maxRecDepth 100000
def trl_ren : Go.Shelf.Ren := ⟨fun | 160 => 64 | 232 => 95 | 231 => 94 | 227 => 96 | 234 => 98 | 233 => 97 | 236 => 100 | 235 => 99 | 228 => 128 | 271 => 131 | 151 => 130 | 197 => 129 | 120 => 146 | 152 => 145 | 260 => 144 | 137 => 150 | 119 => 151 | 224 => 152 | 225 => 153 | 217 => 163 | 266 => 168 | n => n, fun | 9 => 9 | 4 => 4 | 3 => 3 | 5 => 5 | 117 => 141 | 116 => 140 | 0 => 0 | 124 => 144 | 21 => 21 | 105 => 168 | 46 => 130 | 119 => 188 | 139 => 191 | 138 => 190 | n => n, fun | 3 => 2 | 4 => 3 | n => n⟩
theorem trl : Go.Proofs.Lays.n160 Tryd.prog trl_ren := {
  mixed := by kernel_rfl
  f119 := Tryd.func151.trans (congrArg some (by kernel_rfl))
  f120 := Tryd.func146.trans (congrArg some (by kernel_rfl))
  f137 := Tryd.func150.trans (congrArg some (by kernel_rfl))
  f151 := Tryd.func130.trans (congrArg some (by kernel_rfl))
  f152 := Tryd.func145.trans (congrArg some (by kernel_rfl))
  f160 := Tryd.func64.trans (congrArg some (by kernel_rfl))
  f197 := Tryd.func129.trans (congrArg some (by kernel_rfl))
  f217 := Tryd.func163.trans (congrArg some (by kernel_rfl))
  f224 := Tryd.func152.trans (congrArg some (by kernel_rfl))
  f225 := Tryd.func153.trans (congrArg some (by kernel_rfl))
  f227 := Tryd.func96.trans (congrArg some (by kernel_rfl))
  f228 := Tryd.func128.trans (congrArg some (by kernel_rfl))
  f231 := Tryd.func94.trans (congrArg some (by kernel_rfl))
  f232 := Tryd.func95.trans (congrArg some (by kernel_rfl))
  f233 := Tryd.func97.trans (congrArg some (by kernel_rfl))
  f234 := Tryd.func98.trans (congrArg some (by kernel_rfl))
  f235 := Tryd.func99.trans (congrArg some (by kernel_rfl))
  f236 := Tryd.func100.trans (congrArg some (by kernel_rfl))
  f260 := Tryd.func144.trans (congrArg some (by kernel_rfl))
  f266 := Tryd.func168.trans (congrArg some (by kernel_rfl))
  f271 := Tryd.func131.trans (congrArg some (by kernel_rfl))
  t0 := Tryd.underlying0
  a0 := Tryd.isAgg0
  z0 := Tryd.sizeOf0
  v0 := Tryd.zeroValue0
  t3 := Tryd.underlying3
  a3 := Tryd.isAgg3
  z3 := Tryd.sizeOf3
  v3 := Tryd.zeroValue3
  t4 := Tryd.underlying4
  a4 := Tryd.isAgg4
  z4 := Tryd.sizeOf4
  v4 := Tryd.zeroValue4
  t5 := Tryd.underlying5
  a5 := Tryd.isAgg5
  z5 := Tryd.sizeOf5
  v5 := Tryd.zeroValue5
  t9 := Tryd.underlying9
  a9 := Tryd.isAgg9
  z9 := Tryd.sizeOf9
  v9 := Tryd.zeroValue9
  t21 := Tryd.underlying21
  a21 := Tryd.isAgg21
  z21 := Tryd.sizeOf21
  v21 := Tryd.zeroValue21
  t46 := Tryd.underlying130
  a46 := Tryd.isAgg130
  z46 := Tryd.sizeOf130
  v46 := Tryd.zeroValue130
  t105 := Tryd.underlying168
  a105 := Tryd.isAgg168
  z105 := Tryd.sizeOf168
  v105 := Tryd.zeroValue168
  t116 := Tryd.underlying140
  a116 := Tryd.isAgg140
  z116 := Tryd.sizeOf140
  t117 := Tryd.underlying141
  a117 := Tryd.isAgg141
  z117 := Tryd.sizeOf141
  v117 := Tryd.zeroValue141
  t119 := Tryd.underlying188
  a119 := Tryd.isAgg188
  z119 := Tryd.sizeOf188
  t124 := Tryd.underlying144
  a124 := Tryd.isAgg144
  z124 := Tryd.sizeOf144
  v124 := Tryd.zeroValue144
  t138 := Tryd.underlying190
  a138 := Tryd.isAgg190
  z138 := Tryd.sizeOf190
  v138 := Tryd.zeroValue190
  t139 := Tryd.underlying191
  a139 := Tryd.isAgg191
  z139 := Tryd.sizeOf191
  v139 := Tryd.zeroValue191
  g3 := by kernel_rfl
  g4 := by kernel_rfl }

theorem strim_c {E w : World} {R : List Hp} (hH : Has E w [R]) (s : Bs) (hs : s.length ≤ 1000000) : Calls Tryd.prog 64 #[S s, S [0]] w fun e w' => e = .returned (S (Lib.trimB s 0)) ∧ Has E w' [R] := by
  refine (Any.strings_Trim_one trl ⟨s.toArray⟩ 0 (by decide) w (by simp only [ByteArray.size, List.size_toArray]; omega)).mono fun e w' h => ?_
  obtain ⟨h1, h2⟩ := h
  refine ⟨by rw [h1]; rfl, ?_⟩
  rcases h2 with h2 | h2
  · rw [h2]; exact hH
  · rw [h2]; exact Has0.drew hH _
theorem dropZ {s : Bs} : s.dropWhile (· == 0) = [] ↔ ∀ b ∈ s, b = 0 := by
  induction s with
  | nil => simp
  | cons x t ih =>
    rw [List.dropWhile_cons]
    by_cases h : x = 0
    · rw [if_pos (by simpa using h), ih]; simp [h]
    · rw [if_neg (by simpa using h)]; simp [h]
theorem trim_zero {s : Bs} : Lib.trimB s 0 = [] ↔ s = List.replicate s.length 0 := by
  unfold Lib.trimB Lib.trimLeftB Lib.trimRightB
  rw [dropZ, List.eq_replicate_iff]
  constructor
  · intro h
    refine ⟨rfl, ?_⟩
    have h1 : ∀ b ∈ s.reverse.dropWhile (· == 0), b = 0 := fun b hb => h b (List.mem_reverse.2 hb)
    have h2 : s.reverse.dropWhile (· == 0) = [] := by
      cases e : s.reverse.dropWhile (· == 0) with
      | nil => rfl
      | cons x t =>
        have hx := h1 x (by rw [e]; exact List.mem_cons_self ..)
        have hn := List.head?_dropWhile_not (fun b : UInt8 => b == 0) s.reverse
        rw [e] at hn
        simp [hx] at hn
    intro b hb
    exact dropZ.1 h2 b (List.mem_reverse.2 hb)
  · rintro ⟨_, h⟩ b hb
    have := (List.dropWhile_sublist _).subset (List.mem_reverse.1 hb)
    exact h b (List.mem_reverse.1 this)
end Go.Q
namespace Go.Q
open Go.Proofs
set_option linter.unusedVariables false
set_option maxRecDepth 100000
attribute [local irreducible] wpList OK Code.wp
set_option maxHeartbeats 4000000 in
theorem ablank_c {E w : World} {R sg : List Hp} {ab db pb k : Nat} {fr n : Int} {p : Pw} {la : List Bs} {lo : List (Int × Bs)} (hH : Has E w [sg, [Hp.one pb (.cells #[(.bool p.off), (.bool p.armed), (.int .i64 p.left), (.int .i64 p.uses)] 104 (0, 0))], [Hp.one ab (.cells #[(.pointer (some ⟨db, 0, none⟩)), (.int .i64 fr), (.int .i64 n)] 65 (0, 0))], R]) (hd : DevAt pb sg db la lo) (hp : Calm p k) (hk : k ≤ 100000) (h64 : Full64 la) (hlo : LoOk lo la.length) (hfr : 0 ≤ fr) (hn : 1 ≤ n) (hfn : fr + n ≤ la.length) (hla : la.length ≤ 4096) :
    Calls Tryd.prog 29 #[(.pointer (some ⟨ab, 0, none⟩))] w fun e w' => e = .returned (.bool (decide (Lib.trimB (getP la lo (allP fr (n * 64) (0 % (n * 64)) (n * 64))) 0 = []))) ∧ Has E w' [sg, [Hp.one pb (.cells #[(.bool p.off), (.bool p.armed), (.int .i64 p.left), (.int .i64 p.uses)] 104 (0, 0))], [Hp.one ab (.cells #[(.pointer (some ⟨db, 0, none⟩)), (.int .i64 fr), (.int .i64 n)] 65 (0, 0))], R] := by
  have hn2 : n ≤ 4096 := by omega
  refine c_enter (args := [(.pointer (some ⟨ab, 0, none⟩))]) Tryd.func29 rfl Tryd.ntmps29 (by simp) ?_
  refine wp_seq_k fun K1 hK1 => ?_
  refine c_region ?_
  refine s_op (o_assign (v := (.bool false)) rfl ?_)
  refine s_nil ?_
  refine t_norm (hK1 _ _ ?_)
  refine wp_seq_k fun K2 hK2 => ?_
  refine c_region ?_
  refine s_op (o_move (v := (.pointer (some ⟨ab, 0, none⟩))) rfl ?_)
  refine s_op (o_move (v := (.pointer (some ⟨ab, 0, none⟩))) rfl ?_)
  refine s_op (o_callf (vs := #[(.pointer (some ⟨ab, 0, none⟩))]) ca28 rfl (args1 rfl) (alen_c (hH.front 2 rfl).all1 ⟨by omega, by omega⟩) ?_)
  rintro _ w5 ⟨rfl, hX3⟩
  refine ⟨_, rfl, ?_⟩
  have hH4 : Has E w5 [[Hp.one ab (.cells #[(.pointer (some ⟨db, 0, none⟩)), (.int .i64 fr), (.int .i64 n)] 65 (0, 0))], sg, [Hp.one pb (.cells #[(.bool p.off), (.bool p.armed), (.int .i64 p.left), (.int .i64 p.uses)] 104 (0, 0))], R] := hX3.of_all1
  refine s_op (o_callf (vs := #[(.pointer (some ⟨ab, 0, none⟩)), (.int .i64 0), (.int .i64 (n * 64))]) ca32 rfl (args3 rfl rfl rfl) (aget_c ((hH4.front 2 rfl).front 2 rfl).all3 hd hp (by first | omega | decide | (simp; omega)) h64 hlo (by omega) (by omega) (by first | omega | (simp; omega) | simp) (by first | omega | (simp; omega) | simp) (at_ := 0) ⟨by omega, by omega⟩ (size := n * 64) ⟨by omega, by omega⟩) ?_)
  rintro _ w8 ⟨rfl, hX6⟩
  refine ⟨_, rfl, ?_⟩
  have hH7 : Has E w8 [sg, [Hp.one pb (.cells #[(.bool p.off), (.bool p.armed), (.int .i64 p.left), (.int .i64 p.uses)] 104 (0, 0))], [Hp.one ab (.cells #[(.pointer (some ⟨db, 0, none⟩)), (.int .i64 fr), (.int .i64 n)] 65 (0, 0))], R] := hX6.of_all3
  refine s_op (o_move (v := (.tuple #[(S (getP la lo (allP fr (n * 64) (0 % (n * 64)) (n * 64)))), (.int .i64 (0 : Int))])) rfl ?_)
  refine s_op (o_extract (v := (S (getP la lo (allP fr (n * 64) (0 % (n * 64)) (n * 64))))) rfl rfl ?_)
  refine s_op (o_extract (v := (.int .i64 (0 : Int))) rfl rfl ?_)
  refine s_op (o_assign (v := (S (getP la lo (allP fr (n * 64) (0 % (n * 64)) (n * 64))))) rfl ?_)
  refine s_op (o_assign (v := (.int .i64 (0 : Int))) rfl ?_)
  refine s_nil ?_
  refine t_norm (hK2 _ _ ?_)
  refine wp_seq_k fun K9 hK9 => ?_
  refine c_region ?_
  refine s_op (o_move (v := (.pointer (some ⟨ab, 0, none⟩))) rfl ?_)
  refine s_op (o_pnnil (p := some _) Tryd.underlying52 rfl rfl ?_)
  refine s_op (o_move (v := (.bool true)) rfl ?_)
  refine s_on 14 rfl rfl (o_move (v := (.int .i64 (0 : Int))) rfl ?_)
  refine s_on 14 rfl rfl (o_eql (a := (0 : Int)) (b := 0) rfl rfl ?_)
  refine s_op (o_pick_t (u := (.bool (decide ((0 : Int) = 0)))) rfl rfl ?_)
  refine s_op (o_move (v := (.bool (decide ((0 : Int) = 0)))) rfl ?_)
  by_cases h10 : (0 : Int) = 0
  · -- (0 : Int) = 0
    refine s_on 18 rfl (congrArg Value.bool (decide_eq_true h10)) (o_move (v := (S (getP la lo (allP fr (n * 64) (0 % (n * 64)) (n * 64))))) rfl ?_)
    have htl_ := getP_len (a := 0 % (n * 64)) (z := n * 64) h64 hlo hfr hn hfn ⟨by rw [Int.zero_emod]; omega, by rw [Int.zero_emod]; omega⟩ (by omega)
    refine s_on 18 rfl (congrArg Value.bool (decide_eq_true h10)) (o_callf (vs := #[(S (getP la lo (allP fr (n * 64) (0 % (n * 64)) (n * 64)))), (S [0])]) ca64 rfl (args2 rfl rfl) (strim_c hH7.all (getP la lo (allP fr (n * 64) (0 % (n * 64)) (n * 64))) (by omega)) ?_)
    rintro _ w13 ⟨rfl, hX11⟩
    refine ⟨_, rfl, ?_⟩
    have hH12 := hX11.of_all
    refine s_on 18 rfl (congrArg Value.bool (decide_eq_true h10)) (o_seql (a := (Lib.trimB (getP la lo (allP fr (n * 64) (0 % (n * 64)) (n * 64))) 0)) (b := ([] : List UInt8)) rfl rfl ?_)
    refine s_op (o_pick_t (u := (.bool (decide ((Lib.trimB (getP la lo (allP fr (n * 64) (0 % (n * 64)) (n * 64))) 0) = ([] : List UInt8))))) ((rfl : _ = _).trans (congrArg Value.bool (decide_eq_true h10))) rfl ?_)
    refine s_op (o_assign (v := (.bool (decide ((Lib.trimB (getP la lo (allP fr (n * 64) (0 % (n * 64)) (n * 64))) 0) = ([] : List UInt8))))) rfl ?_)
    refine s_nil ?_
    refine t_norm (hK9 _ _ ?_)
    refine wp_ret ?_
    refine c_ret1 Tryd.results29  (v := (.bool (decide ((Lib.trimB (getP la lo (allP fr (n * 64) (0 % (n * 64)) (n * 64))) 0) = ([] : List UInt8))))) rfl ?_
    exact ⟨by first | rfl | (rw [show (decide (Lib.trimB (getP la lo (allP fr (n * 64) (0 % (n * 64)) (n * 64))) 0 = [])) = decide ((Lib.trimB (getP la lo (allP fr (n * 64) (0 % (n * 64)) (n * 64))) 0) = ([] : List UInt8)) by first | rfl | simp]), hH12⟩
  · -- not: (0 : Int) = 0
    exact absurd rfl h10
set_option maxHeartbeats 4000000 in
theorem aget_no {E w : World} {R sg : List Hp} {ab db pb k : Nat} {fr n : Int} {p : Pw} {la : List Bs} {lo : List (Int × Bs)} (hH : Has E w [sg, [Hp.one pb (.cells #[(.bool p.off), (.bool p.armed), (.int .i64 p.left), (.int .i64 p.uses)] 104 (0, 0))], [Hp.one ab (.cells #[(.pointer (some ⟨db, 0, none⟩)), (.int .i64 fr), (.int .i64 n)] 65 (0, 0))], R]) (hd : DevAt pb sg db la lo) (hp : Calm p k) (hk : k ≤ 100000) (h64 : Full64 la) (hlo : LoOk lo la.length) (hfr : 0 ≤ fr) (hn : 1 ≤ n) (hfn : fr + n ≤ la.length) (hla : la.length ≤ 4096) {at_ size : Int} (hno : ¬ (0 ≤ at_ ∧ at_ ≤ 4611686018427387904 ∧ 0 ≤ size ∧ size ≤ n * 64)) :
    Calls Tryd.prog 32 #[(.pointer (some ⟨ab, 0, none⟩)), (.int .i64 at_), (.int .i64 size)] w fun e w' => e = .returned (.tuple #[S [], .int .i64 1]) ∧ Has E w' [sg, [Hp.one pb (.cells #[(.bool p.off), (.bool p.armed), (.int .i64 p.left), (.int .i64 p.uses)] 104 (0, 0))], [Hp.one ab (.cells #[(.pointer (some ⟨db, 0, none⟩)), (.int .i64 fr), (.int .i64 n)] 65 (0, 0))], R] := by
  refine c_enter (args := [(.pointer (some ⟨ab, 0, none⟩)), (.int .i64 at_), (.int .i64 size)]) Tryd.func32 rfl Tryd.ntmps32 (by simp) ?_
  refine wp_seq_k fun K1 hK1 => ?_
  refine c_region ?_
  refine s_op (o_assign (v := (S ([] : List UInt8))) rfl ?_)
  refine s_op (o_assign (v := (.int .i64 0)) rfl ?_)
  refine s_nil ?_
  refine t_norm (hK1 _ _ ?_)
  refine wp_seq_k fun K2 hK2 => ?_
  refine wp_seq_k fun K3 hK3 => ?_
  refine c_region ?_
  refine s_op (o_move (v := (.pointer (some ⟨ab, 0, none⟩))) rfl ?_)
  refine s_op (o_move (v := (.int .i64 at_)) rfl ?_)
  refine s_op (o_move (v := (.int .i64 size)) rfl ?_)
  refine s_op (o_callf (vs := #[(.pointer (some ⟨ab, 0, none⟩)), (.int .i64 at_), (.int .i64 size)]) ca66 rfl (args3 rfl rfl rfl) (amay_c (hH.front 2 rfl).all1 ⟨by omega, by omega⟩ at_ size) ?_)
  rintro _ w6 ⟨rfl, hX4⟩
  refine ⟨_, rfl, ?_⟩
  have hH5 : Has E w6 [[Hp.one ab (.cells #[(.pointer (some ⟨db, 0, none⟩)), (.int .i64 fr), (.int .i64 n)] 65 (0, 0))], sg, [Hp.one pb (.cells #[(.bool p.off), (.bool p.armed), (.int .i64 p.left), (.int .i64 p.uses)] 104 (0, 0))], R] := hX4.of_all1
  refine s_op (o_not2 (b := decide (0 ≤ at_ ∧ at_ ≤ 4611686018427387904 ∧ 0 ≤ size ∧ size ≤ n * 64)) (b' := decide (¬ (0 ≤ at_ ∧ at_ ≤ 4611686018427387904 ∧ 0 ≤ size ∧ size ≤ n * 64))) rfl not_dec ?_)
  refine s_nil ?_
  refine t_norm (hK3 _ _ ?_)
  refine c_cond rfl (fun h7 => ?_) (fun h7 => ?_)
  · -- ¬ (0 ≤ at_ ∧ at_ ≤ 4611686018427387904 ∧ 0 ≤ size ∧ size ≤ n * 64)
    refine wp_seq_k fun K8 hK8 => ?_
    refine c_region ?_
    refine s_op (o_assign (v := (S ([] : List UInt8))) rfl ?_)
    refine s_op (o_assign (v := (.int .i64 1)) rfl ?_)
    refine s_nil ?_
    refine t_norm (hK8 _ _ ?_)
    refine wp_ret ?_
    refine t_ret (c_ret2 Tryd.results32  (v := (S ([] : List UInt8))) rfl (x := (.int .i64 1)) rfl ?_)
    have hH9 : Has E w6 [sg, [Hp.one pb (.cells #[(.bool p.off), (.bool p.armed), (.int .i64 p.left), (.int .i64 p.uses)] 104 (0, 0))], [Hp.one ab (.cells #[(.pointer (some ⟨db, 0, none⟩)), (.int .i64 fr), (.int .i64 n)] 65 (0, 0))], R] := ((((hH5.front 3 rfl).front 1 rfl).front 3 rfl).front 3 rfl).first 4 rfl
    exact ⟨rfl, hH9⟩
  · -- not: ¬ (0 ≤ at_ ∧ at_ ≤ 4611686018427387904 ∧ 0 ≤ size ∧ size ≤ n * 64)
    exact absurd (Classical.not_not.1 h7) hno
set_option maxHeartbeats 4000000 in
theorem anew_no {E w : World} {R sg : List Hp} {db pb : Nat} {p : Pw} {la : List Bs} {lo : List (Int × Bs)} (hH : Has E w [sg, [Hp.one pb (.cells #[(.bool p.off), (.bool p.armed), (.int .i64 p.left), (.int .i64 p.uses)] 104 (0, 0))], R]) (hd : DevAt pb sg db la lo) {fr n : Int} (hno : fr < 0 ∨ n < 1 ∨ (la.length : Int) < n ∨ (la.length : Int) - n < fr) (hla : la.length ≤ 4096) :
    Calls Tryd.prog 27 #[(.pointer (some ⟨db, 0, none⟩)), (.int .i64 fr), (.int .i64 n)] w fun e w' => e = .returned (.pointer none) ∧ Has E w' [sg, [Hp.one pb (.cells #[(.bool p.off), (.bool p.armed), (.int .i64 p.left), (.int .i64 p.uses)] 104 (0, 0))], R] := by
  refine c_enter (args := [(.pointer (some ⟨db, 0, none⟩)), (.int .i64 fr), (.int .i64 n)]) Tryd.func27 rfl Tryd.ntmps27 (by simp) ?_
  refine wp_seq_k fun K1 hK1 => ?_
  refine c_region ?_
  refine s_op (o_assign (v := (.pointer none)) rfl ?_)
  refine s_nil ?_
  refine t_norm (hK1 _ _ ?_)
  refine wp_seq_k fun K2 hK2 => ?_
  refine wp_seq_k fun K3 hK3 => ?_
  refine c_region ?_
  refine s_op (o_move (v := (.int .i64 fr)) rfl ?_)
  refine s_op (o_lss (a := fr) (b := 0) rfl rfl ?_)
  refine s_op (o_move (v := (.bool (decide (fr < 0)))) rfl ?_)
  by_cases h4 : fr < 0
  · -- fr < 0
    refine s_off (b' := true) 9 rfl (congrArg Value.bool (decide_eq_true h4)) rfl ?_
    refine s_off (b' := true) 9 rfl (congrArg Value.bool (decide_eq_true h4)) rfl ?_
    refine s_op (o_pick_t (u := (.bool true)) ((rfl : _ = _).trans (congrArg Value.bool (decide_eq_true h4))) rfl ?_)
    refine s_op (o_move (v := (.bool true)) rfl ?_)
    refine s_off (b' := true) 13 rfl rfl rfl ?_
    refine s_off (b' := true) 13 rfl rfl rfl ?_
    refine s_off (b' := true) 13 rfl rfl rfl ?_
    refine s_off (b' := true) 13 rfl rfl rfl ?_
    refine s_op (o_pick_t (u := (.bool true)) rfl rfl ?_)
    refine s_op (o_move (v := (.bool true)) rfl ?_)
    refine s_off (b' := true) 19 rfl rfl rfl ?_
    refine s_off (b' := true) 19 rfl rfl rfl ?_
    refine s_off (b' := true) 19 rfl rfl rfl ?_
    refine s_off (b' := true) 19 rfl rfl rfl ?_
    refine s_off (b' := true) 19 rfl rfl rfl ?_
    refine s_off (b' := true) 19 rfl rfl rfl ?_
    refine s_op (o_pick_t (u := (.bool true)) rfl rfl ?_)
    refine s_nil ?_
    refine t_norm (hK3 _ _ ?_)
    refine c_true rfl rfl ?_
    refine wp_seq_k fun K5 hK5 => ?_
    refine c_region ?_
    refine s_op (o_assign (v := (.pointer none)) rfl ?_)
    refine s_nil ?_
    refine t_norm (hK5 _ _ ?_)
    refine wp_ret ?_
    refine t_ret (c_ret1 Tryd.results27  (v := (.pointer none)) rfl ?_)
    exact ⟨rfl, hH⟩
  · -- not: fr < 0
    refine s_on 9 rfl (congrArg Value.bool (decide_eq_false h4)) (o_move (v := (.int .i64 n)) rfl ?_)
    refine s_on 9 rfl (congrArg Value.bool (decide_eq_false h4)) (o_lss (a := n) (b := 1) rfl rfl ?_)
    refine s_op (o_pick_f (u := (.bool (decide (n < 1)))) ((rfl : _ = _).trans (congrArg Value.bool (decide_eq_false h4))) rfl ?_)
    refine s_op (o_move (v := (.bool (decide (n < 1)))) rfl ?_)
    by_cases h6 : n < 1
    · -- n < 1
      refine s_off (b' := true) 13 rfl (congrArg Value.bool (decide_eq_true h6)) rfl ?_
      refine s_off (b' := true) 13 rfl (congrArg Value.bool (decide_eq_true h6)) rfl ?_
      refine s_off (b' := true) 13 rfl (congrArg Value.bool (decide_eq_true h6)) rfl ?_
      refine s_off (b' := true) 13 rfl (congrArg Value.bool (decide_eq_true h6)) rfl ?_
      refine s_op (o_pick_t (u := (.bool true)) ((rfl : _ = _).trans (congrArg Value.bool (decide_eq_true h6))) rfl ?_)
      refine s_op (o_move (v := (.bool true)) rfl ?_)
      refine s_off (b' := true) 19 rfl rfl rfl ?_
      refine s_off (b' := true) 19 rfl rfl rfl ?_
      refine s_off (b' := true) 19 rfl rfl rfl ?_
      refine s_off (b' := true) 19 rfl rfl rfl ?_
      refine s_off (b' := true) 19 rfl rfl rfl ?_
      refine s_off (b' := true) 19 rfl rfl rfl ?_
      refine s_op (o_pick_t (u := (.bool true)) rfl rfl ?_)
      refine s_nil ?_
      refine t_norm (hK3 _ _ ?_)
      refine c_true rfl rfl ?_
      refine wp_seq_k fun K7 hK7 => ?_
      refine c_region ?_
      refine s_op (o_assign (v := (.pointer none)) rfl ?_)
      refine s_nil ?_
      refine t_norm (hK7 _ _ ?_)
      refine wp_ret ?_
      refine t_ret (c_ret1 Tryd.results27  (v := (.pointer none)) rfl ?_)
      exact ⟨rfl, hH⟩
    · -- not: n < 1
      refine s_on 13 rfl (congrArg Value.bool (decide_eq_false h6)) (o_move (v := (.int .i64 n)) rfl ?_)
      refine s_on 13 rfl (congrArg Value.bool (decide_eq_false h6)) (o_move (v := (.pointer (some ⟨db, 0, none⟩))) rfl ?_)
      refine s_on 13 rfl (congrArg Value.bool (decide_eq_false h6)) (o_callf (vs := #[(.pointer (some ⟨db, 0, none⟩))]) ca63 rfl (args1 rfl) (sectors_d (p := p) (la := la) (lo := lo) ((hH.front 1 rfl).front 1 rfl).all2 hd ) ?_)
      rintro _ w10 ⟨rfl, hX8⟩
      refine ⟨_, rfl, ?_⟩
      have hH9 : Has E w10 [sg, [Hp.one pb (.cells #[(.bool p.off), (.bool p.armed), (.int .i64 p.left), (.int .i64 p.uses)] 104 (0, 0))], R] := hX8.of_all2
      refine s_on 13 rfl (congrArg Value.bool (decide_eq_false h6)) (o_gtr (a := n) (b := ((la.length : Nat) : Int)) rfl rfl ?_)
      refine s_op (o_pick_f (u := (.bool (decide (((la.length : Nat) : Int) < n)))) ((rfl : _ = _).trans (congrArg Value.bool (decide_eq_false h6))) rfl ?_)
      refine s_op (o_move (v := (.bool (decide (((la.length : Nat) : Int) < n)))) rfl ?_)
      by_cases h11 : ((la.length : Nat) : Int) < n
      · -- ((la.length : Nat) : Int) < n
        refine s_off (b' := true) 19 rfl (congrArg Value.bool (decide_eq_true h11)) rfl ?_
        refine s_off (b' := true) 19 rfl (congrArg Value.bool (decide_eq_true h11)) rfl ?_
        refine s_off (b' := true) 19 rfl (congrArg Value.bool (decide_eq_true h11)) rfl ?_
        refine s_off (b' := true) 19 rfl (congrArg Value.bool (decide_eq_true h11)) rfl ?_
        refine s_off (b' := true) 19 rfl (congrArg Value.bool (decide_eq_true h11)) rfl ?_
        refine s_off (b' := true) 19 rfl (congrArg Value.bool (decide_eq_true h11)) rfl ?_
        refine s_op (o_pick_t (u := (.bool true)) ((rfl : _ = _).trans (congrArg Value.bool (decide_eq_true h11))) rfl ?_)
        refine s_nil ?_
        refine t_norm (hK3 _ _ ?_)
        refine c_true rfl rfl ?_
        refine wp_seq_k fun K12 hK12 => ?_
        refine c_region ?_
        refine s_op (o_assign (v := (.pointer none)) rfl ?_)
        refine s_nil ?_
        refine t_norm (hK12 _ _ ?_)
        refine wp_ret ?_
        refine t_ret (c_ret1 Tryd.results27  (v := (.pointer none)) rfl ?_)
        exact ⟨rfl, hH9⟩
      · -- not: ((la.length : Nat) : Int) < n
        refine s_on 19 rfl (congrArg Value.bool (decide_eq_false h11)) (o_move (v := (.int .i64 fr)) rfl ?_)
        refine s_on 19 rfl (congrArg Value.bool (decide_eq_false h11)) (o_move (v := (.pointer (some ⟨db, 0, none⟩))) rfl ?_)
        refine s_on 19 rfl (congrArg Value.bool (decide_eq_false h11)) (o_callf (vs := #[(.pointer (some ⟨db, 0, none⟩))]) ca63 rfl (args1 rfl) (sectors_d (p := p) (la := la) (lo := lo) ((hH9.front 1 rfl).front 1 rfl).all2 hd ) ?_)
        rintro _ w15 ⟨rfl, hX13⟩
        refine ⟨_, rfl, ?_⟩
        have hH14 : Has E w15 [sg, [Hp.one pb (.cells #[(.bool p.off), (.bool p.armed), (.int .i64 p.left), (.int .i64 p.uses)] 104 (0, 0))], R] := hX13.of_all2
        refine s_on 19 rfl (congrArg Value.bool (decide_eq_false h11)) (o_move (v := (.int .i64 n)) rfl ?_)
        refine s_on 19 rfl (congrArg Value.bool (decide_eq_false h11)) (o_sub (a := ((la.length : Nat) : Int)) (b := n) rfl rfl (w64 (by omega) (by omega)) ?_)
        refine s_on 19 rfl (congrArg Value.bool (decide_eq_false h11)) (o_gtr (a := fr) (b := ((la.length : Nat) : Int) - n) rfl rfl ?_)
        refine s_op (o_pick_f (u := (.bool (decide (((la.length : Nat) : Int) - n < fr)))) ((rfl : _ = _).trans (congrArg Value.bool (decide_eq_false h11))) rfl ?_)
        refine s_nil ?_
        refine t_norm (hK3 _ _ ?_)
        refine c_cond rfl (fun h16 => ?_) (fun h16 => ?_)
        · -- ((la.length : Nat) : Int) - n < fr
          refine wp_seq_k fun K17 hK17 => ?_
          refine c_region ?_
          refine s_op (o_assign (v := (.pointer none)) rfl ?_)
          refine s_nil ?_
          refine t_norm (hK17 _ _ ?_)
          refine wp_ret ?_
          refine t_ret (c_ret1 Tryd.results27  (v := (.pointer none)) rfl ?_)
          exact ⟨rfl, hH14⟩
        · -- not: ((la.length : Nat) : Int) - n < fr
          refine wp_skip ?_
          refine t_norm (hK2 _ _ ?_)
          refine wp_seq_k fun K18 hK18 => ?_
          refine c_region ?_
          refine s_op (o_move (v := (.pointer (some ⟨db, 0, none⟩))) rfl ?_)
          refine s_op (o_move (v := (.int .i64 fr)) rfl ?_)
          refine s_op (o_move (v := (.int .i64 n)) rfl ?_)
          refine s_op (o_sight (v := (.agg #[(.pointer (some ⟨db, 0, none⟩)), (.int .i64 fr), (.int .i64 n)])) (fun _ => by kernel_rfl) ?_)
          refine s_op (o_box (cs := #[(.pointer (some ⟨db, 0, none⟩)), (.int .i64 fr), (.int .i64 n)]) rfl rfl hH14 fun b19 w20 hH21 => ?_)
          refine s_op (o_assign (v := (.pointer (some ⟨b19, 0, none⟩))) rfl ?_)
          refine s_nil ?_
          refine t_norm (hK18 _ _ ?_)
          refine wp_ret ?_
          refine c_ret1 Tryd.results27  (v := (.pointer (some ⟨b19, 0, none⟩))) rfl ?_
          exfalso; omega
set_option maxHeartbeats 4000000 in
theorem sectors_nil {E w : World} {R : List Hp} (hH : Has E w [R]) :
    Calls Tryd.prog 63 #[(.pointer none)] w fun e w' => e = .returned (.int .i64 0) ∧ Has E w' [R] := by
  refine c_enter (args := [(.pointer none)]) Tryd.func63 rfl Tryd.ntmps63 (by simp) ?_
  refine wp_seq_k fun K1 hK1 => ?_
  refine c_region ?_
  refine s_op (o_assign (v := (.int .i64 0)) rfl ?_)
  refine s_nil ?_
  refine t_norm (hK1 _ _ ?_)
  refine wp_seq_k fun K2 hK2 => ?_
  refine wp_seq_k fun K3 hK3 => ?_
  refine c_region ?_
  refine s_op (o_move (v := (.pointer none)) rfl ?_)
  refine s_op (o_pnil (p := none) Tryd.underlying50 rfl rfl ?_)
  refine s_nil ?_
  refine t_norm (hK3 _ _ ?_)
  refine c_true rfl rfl ?_
  refine wp_seq_k fun K4 hK4 => ?_
  refine c_region ?_
  refine s_op (o_assign (v := (.int .i64 0)) rfl ?_)
  refine s_nil ?_
  refine t_norm (hK4 _ _ ?_)
  refine wp_ret ?_
  refine t_ret (c_ret1 Tryd.results63  (v := (.int .i64 0)) rfl ?_)
  exact ⟨rfl, hH⟩
set_option maxHeartbeats 4000000 in
theorem anew_nil {E w : World} {R : List Hp} (hH : Has E w [R]) (fr n : Int) :
    Calls Tryd.prog 27 #[(.pointer none), (.int .i64 fr), (.int .i64 n)] w fun e w' => e = .returned (.pointer none) ∧ Has E w' [R] := by
  refine c_enter (args := [(.pointer none), (.int .i64 fr), (.int .i64 n)]) Tryd.func27 rfl Tryd.ntmps27 (by simp) ?_
  refine wp_seq_k fun K1 hK1 => ?_
  refine c_region ?_
  refine s_op (o_assign (v := (.pointer none)) rfl ?_)
  refine s_nil ?_
  refine t_norm (hK1 _ _ ?_)
  refine wp_seq_k fun K2 hK2 => ?_
  refine wp_seq_k fun K3 hK3 => ?_
  refine c_region ?_
  refine s_op (o_move (v := (.int .i64 fr)) rfl ?_)
  refine s_op (o_lss (a := fr) (b := 0) rfl rfl ?_)
  refine s_op (o_move (v := (.bool (decide (fr < 0)))) rfl ?_)
  by_cases h4 : fr < 0
  · -- fr < 0
    refine s_off (b' := true) 9 rfl (congrArg Value.bool (decide_eq_true h4)) rfl ?_
    refine s_off (b' := true) 9 rfl (congrArg Value.bool (decide_eq_true h4)) rfl ?_
    refine s_op (o_pick_t (u := (.bool true)) ((rfl : _ = _).trans (congrArg Value.bool (decide_eq_true h4))) rfl ?_)
    refine s_op (o_move (v := (.bool true)) rfl ?_)
    refine s_off (b' := true) 13 rfl rfl rfl ?_
    refine s_off (b' := true) 13 rfl rfl rfl ?_
    refine s_off (b' := true) 13 rfl rfl rfl ?_
    refine s_off (b' := true) 13 rfl rfl rfl ?_
    refine s_op (o_pick_t (u := (.bool true)) rfl rfl ?_)
    refine s_op (o_move (v := (.bool true)) rfl ?_)
    refine s_off (b' := true) 19 rfl rfl rfl ?_
    refine s_off (b' := true) 19 rfl rfl rfl ?_
    refine s_off (b' := true) 19 rfl rfl rfl ?_
    refine s_off (b' := true) 19 rfl rfl rfl ?_
    refine s_off (b' := true) 19 rfl rfl rfl ?_
    refine s_off (b' := true) 19 rfl rfl rfl ?_
    refine s_op (o_pick_t (u := (.bool true)) rfl rfl ?_)
    refine s_nil ?_
    refine t_norm (hK3 _ _ ?_)
    refine c_true rfl rfl ?_
    refine wp_seq_k fun K5 hK5 => ?_
    refine c_region ?_
    refine s_op (o_assign (v := (.pointer none)) rfl ?_)
    refine s_nil ?_
    refine t_norm (hK5 _ _ ?_)
    refine wp_ret ?_
    refine t_ret (c_ret1 Tryd.results27  (v := (.pointer none)) rfl ?_)
    exact ⟨rfl, hH⟩
  · -- not: fr < 0
    refine s_on 9 rfl (congrArg Value.bool (decide_eq_false h4)) (o_move (v := (.int .i64 n)) rfl ?_)
    refine s_on 9 rfl (congrArg Value.bool (decide_eq_false h4)) (o_lss (a := n) (b := 1) rfl rfl ?_)
    refine s_op (o_pick_f (u := (.bool (decide (n < 1)))) ((rfl : _ = _).trans (congrArg Value.bool (decide_eq_false h4))) rfl ?_)
    refine s_op (o_move (v := (.bool (decide (n < 1)))) rfl ?_)
    by_cases h6 : n < 1
    · -- n < 1
      refine s_off (b' := true) 13 rfl (congrArg Value.bool (decide_eq_true h6)) rfl ?_
      refine s_off (b' := true) 13 rfl (congrArg Value.bool (decide_eq_true h6)) rfl ?_
      refine s_off (b' := true) 13 rfl (congrArg Value.bool (decide_eq_true h6)) rfl ?_
      refine s_off (b' := true) 13 rfl (congrArg Value.bool (decide_eq_true h6)) rfl ?_
      refine s_op (o_pick_t (u := (.bool true)) ((rfl : _ = _).trans (congrArg Value.bool (decide_eq_true h6))) rfl ?_)
      refine s_op (o_move (v := (.bool true)) rfl ?_)
      refine s_off (b' := true) 19 rfl rfl rfl ?_
      refine s_off (b' := true) 19 rfl rfl rfl ?_
      refine s_off (b' := true) 19 rfl rfl rfl ?_
      refine s_off (b' := true) 19 rfl rfl rfl ?_
      refine s_off (b' := true) 19 rfl rfl rfl ?_
      refine s_off (b' := true) 19 rfl rfl rfl ?_
      refine s_op (o_pick_t (u := (.bool true)) rfl rfl ?_)
      refine s_nil ?_
      refine t_norm (hK3 _ _ ?_)
      refine c_true rfl rfl ?_
      refine wp_seq_k fun K7 hK7 => ?_
      refine c_region ?_
      refine s_op (o_assign (v := (.pointer none)) rfl ?_)
      refine s_nil ?_
      refine t_norm (hK7 _ _ ?_)
      refine wp_ret ?_
      refine t_ret (c_ret1 Tryd.results27  (v := (.pointer none)) rfl ?_)
      exact ⟨rfl, hH⟩
    · -- not: n < 1
      refine s_on 13 rfl (congrArg Value.bool (decide_eq_false h6)) (o_move (v := (.int .i64 n)) rfl ?_)
      refine s_on 13 rfl (congrArg Value.bool (decide_eq_false h6)) (o_move (v := (.pointer none)) rfl ?_)
      refine s_on 13 rfl (congrArg Value.bool (decide_eq_false h6)) (o_callf (vs := #[(.pointer none)]) ca63 rfl (args1 rfl) (sectors_nil hH.all) ?_)
      rintro _ w10 ⟨rfl, hX8⟩
      refine ⟨_, rfl, ?_⟩
      have hH9 := hX8.of_all
      refine s_on 13 rfl (congrArg Value.bool (decide_eq_false h6)) (o_gtr (a := n) (b := (0 : Int)) rfl rfl ?_)
      refine s_op (o_pick_f (u := (.bool (decide ((0 : Int) < n)))) ((rfl : _ = _).trans (congrArg Value.bool (decide_eq_false h6))) rfl ?_)
      refine s_op (o_move (v := (.bool (decide ((0 : Int) < n)))) rfl ?_)
      by_cases h11 : (0 : Int) < n
      · -- (0 : Int) < n
        refine s_off (b' := true) 19 rfl (congrArg Value.bool (decide_eq_true h11)) rfl ?_
        refine s_off (b' := true) 19 rfl (congrArg Value.bool (decide_eq_true h11)) rfl ?_
        refine s_off (b' := true) 19 rfl (congrArg Value.bool (decide_eq_true h11)) rfl ?_
        refine s_off (b' := true) 19 rfl (congrArg Value.bool (decide_eq_true h11)) rfl ?_
        refine s_off (b' := true) 19 rfl (congrArg Value.bool (decide_eq_true h11)) rfl ?_
        refine s_off (b' := true) 19 rfl (congrArg Value.bool (decide_eq_true h11)) rfl ?_
        refine s_op (o_pick_t (u := (.bool true)) ((rfl : _ = _).trans (congrArg Value.bool (decide_eq_true h11))) rfl ?_)
        refine s_nil ?_
        refine t_norm (hK3 _ _ ?_)
        refine c_true rfl rfl ?_
        refine wp_seq_k fun K12 hK12 => ?_
        refine c_region ?_
        refine s_op (o_assign (v := (.pointer none)) rfl ?_)
        refine s_nil ?_
        refine t_norm (hK12 _ _ ?_)
        refine wp_ret ?_
        refine t_ret (c_ret1 Tryd.results27  (v := (.pointer none)) rfl ?_)
        exact ⟨rfl, hH9⟩
      · -- not: (0 : Int) < n
        refine s_on 19 rfl (congrArg Value.bool (decide_eq_false h11)) (o_move (v := (.int .i64 fr)) rfl ?_)
        refine s_on 19 rfl (congrArg Value.bool (decide_eq_false h11)) (o_move (v := (.pointer none)) rfl ?_)
        refine s_on 19 rfl (congrArg Value.bool (decide_eq_false h11)) (o_callf (vs := #[(.pointer none)]) ca63 rfl (args1 rfl) (sectors_nil hH9.all) ?_)
        rintro _ w15 ⟨rfl, hX13⟩
        refine ⟨_, rfl, ?_⟩
        have hH14 := hX13.of_all
        refine s_on 19 rfl (congrArg Value.bool (decide_eq_false h11)) (o_move (v := (.int .i64 n)) rfl ?_)
        refine s_on 19 rfl (congrArg Value.bool (decide_eq_false h11)) (o_sub (a := (0 : Int)) (b := n) rfl rfl (w64 (by omega) (by omega)) ?_)
        refine s_on 19 rfl (congrArg Value.bool (decide_eq_false h11)) (o_gtr (a := fr) (b := (0 : Int) - n) rfl rfl ?_)
        refine s_op (o_pick_f (u := (.bool (decide ((0 : Int) - n < fr)))) ((rfl : _ = _).trans (congrArg Value.bool (decide_eq_false h11))) rfl ?_)
        refine s_nil ?_
        refine t_norm (hK3 _ _ ?_)
        refine c_cond rfl (fun h16 => ?_) (fun h16 => ?_)
        · -- (0 : Int) - n < fr
          refine wp_seq_k fun K17 hK17 => ?_
          refine c_region ?_
          refine s_op (o_assign (v := (.pointer none)) rfl ?_)
          refine s_nil ?_
          refine t_norm (hK17 _ _ ?_)
          refine wp_ret ?_
          refine t_ret (c_ret1 Tryd.results27  (v := (.pointer none)) rfl ?_)
          exact ⟨rfl, hH14⟩
        · -- not: (0 : Int) - n < fr
          refine wp_skip ?_
          refine t_norm (hK2 _ _ ?_)
          refine wp_seq_k fun K18 hK18 => ?_
          refine c_region ?_
          refine s_op (o_move (v := (.pointer none)) rfl ?_)
          refine s_op (o_move (v := (.int .i64 fr)) rfl ?_)
          refine s_op (o_move (v := (.int .i64 n)) rfl ?_)
          refine s_op (o_sight (v := (.agg #[(.pointer none), (.int .i64 fr), (.int .i64 n)])) (fun _ => by kernel_rfl) ?_)
          refine s_op (o_box (cs := #[(.pointer none), (.int .i64 fr), (.int .i64 n)]) rfl rfl hH14 fun b19 w20 hH21 => ?_)
          refine s_op (o_assign (v := (.pointer (some ⟨b19, 0, none⟩))) rfl ?_)
          refine s_nil ?_
          refine t_norm (hK18 _ _ ?_)
          refine wp_ret ?_
          refine c_ret1 Tryd.results27  (v := (.pointer (some ⟨b19, 0, none⟩))) rfl ?_
          exfalso; omega
end Go.Q
