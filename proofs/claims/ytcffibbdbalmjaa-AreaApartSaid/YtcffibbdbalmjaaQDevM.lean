/-
  Layer 5: the model of a device and of a power, and how it goes with them.
-/
import Derived.Test.YtcffibbdbalmjaaQIn
set_option linter.unusedVariables false
set_option linter.unusedSimpArgs false
namespace Go.Q
-- the power
def useM (q : Pw) : Pw := if q.off = true then q else if q.armed = true ∧ q.left = 0 then ⟨true, q.armed, q.left, q.uses + 1⟩ else ⟨q.off, q.armed, q.left - 1, q.uses + 1⟩
def useMB (q : Pw) : Bool := !q.off && !(q.armed && decide (q.left = 0))
structure PR (k : Nat) (p q : Pw) : Prop where
  off : p.off = q.off
  arm : p.armed = q.armed
  uses : p.uses = q.uses
  left : p.off = false → p.armed = true → p.left = q.left
  u0 : 0 ≤ p.uses
  u1 : p.uses ≤ k
  l0 : -(k : Int) ≤ p.left
  l1 : p.left ≤ 9223372036854775807
  m0 : -(k : Int) ≤ q.left
  m1 : q.left ≤ 9223372036854775807
theorem PR.mono {k m : Nat} {p q : Pw} (h : PR k p q) (hk : k ≤ m) : PR m p q := by
  obtain ⟨h1, h2, h3, h4, h5, h6, h7, h8, h9, h10⟩ := h
  exact ⟨h1, h2, h3, h4, h5, by omega, by omega, h8, by omega, h10⟩
theorem PR.ok {k : Nat} {p q : Pw} (h : PR k p q) (hk : k ≤ 1000000) : PwOk p ∧ PwOk q := by
  obtain ⟨h1, h2, h3, h4, h5, h6, h7, h8, h9, h10⟩ := h
  exact ⟨⟨h5, by omega, by omega, h8⟩, ⟨by omega, by omega, by omega, h10⟩⟩
theorem PR.new : PR 0 (Pw.mk false false 0 0) (Pw.mk false false 0 0) := ⟨rfl, rfl, rfl, fun _ _ => rfl, by decide, by decide, by decide, by decide, by decide, by decide⟩
theorem PR.b {k : Nat} {p q : Pw} (h : PR k p q) : useB p = useMB q := by
  obtain ⟨h1, h2, h3, h4, _⟩ := h
  obtain ⟨o, a, l, u⟩ := p
  obtain ⟨o', a', l', u'⟩ := q
  simp only at h1 h2 h3 h4
  subst h1 h2 h3
  unfold useB useMB useS
  cases o with
  | true => rfl
  | false =>
    cases a with
    | false => rfl
    | true => rw [h4 rfl rfl]; rfl
theorem PR.use {k : Nat} {p q : Pw} (h : PR k p q) : PR (k + 1) (useS p) (useM q) := by
  obtain ⟨h1, h2, h3, h4, h5, h6, h7, h8, h9, h10⟩ := h
  obtain ⟨o, a, l, u⟩ := p
  obtain ⟨o', a', l', u'⟩ := q
  simp only at h1 h2 h3 h4 h5 h6 h7 h8 h9 h10
  subst h1 h2 h3
  unfold useS useM
  cases o with
  | true => exact ⟨rfl, rfl, rfl, (fun g => by cases g), h5, (by show u ≤ _; omega), (by show _ ≤ l; omega), h8, (by show _ ≤ l'; omega), h10⟩
  | false =>
    cases a with
    | false => exact ⟨rfl, rfl, rfl, (fun _ g => by cases g), (by show 0 ≤ u + 1; omega), (by show u + 1 ≤ _; omega), (by show _ ≤ l - 1; omega), (by show l - 1 ≤ _; omega), (by show _ ≤ l' - 1; omega), (by show l' - 1 ≤ _; omega)⟩
    | true =>
      have e := h4 rfl rfl
      subst e
      by_cases g : l = 0
      · subst g; exact ⟨rfl, rfl, rfl, (fun g => by simp at g), (by show 0 ≤ u + 1; omega), (by show u + 1 ≤ _; omega), (by simp; omega), (by simp), (by simp; omega), (by simp)⟩
      · simp only [g, Bool.false_eq_true, if_false, and_false, decide_false, Bool.and_false]
        exact ⟨rfl, rfl, rfl, (fun _ _ => rfl), (by show 0 ≤ u + 1; omega), (by show u + 1 ≤ _; omega), (by show _ ≤ l - 1; omega), (by show l - 1 ≤ _; omega), (by show _ ≤ l - 1; omega), (by show l - 1 ≤ _; omega)⟩
theorem PR.arm' {k : Nat} {p q : Pw} (h : PR k p q) {n : Int} (hn : n ≤ 9223372036854775807) : PR k (armS p n) ⟨q.off, true, max n 0, q.uses⟩ := by
  obtain ⟨h1, h2, h3, h4, h5, h6, h7, h8, h9, h10⟩ := h
  exact ⟨h1, rfl, h3, fun _ _ => rfl, h5, h6, (by show _ ≤ max n 0; omega), (by show max n 0 ≤ _; omega), (by show _ ≤ max n 0; omega), (by show max n 0 ≤ _; omega)⟩
theorem PR.back {k : Nat} {p q : Pw} (h : PR k p q) : PR k (backS p) ⟨false, false, q.left, q.uses⟩ := by
  obtain ⟨h1, h2, h3, h4, h5, h6, h7, h8, h9, h10⟩ := h
  exact ⟨rfl, rfl, h3, (fun _ g => by cases g), h5, h6, h7, h8, h9, h10⟩
-- the device
def nowAt (la : List Bs) (lo : List (Int × Bs)) (j : Nat) : Bs := (getB lo (j : Int)).getD ((la[j]?).getD [])
def nowS (la : List Bs) (lo : List (Int × Bs)) : List Bs := (List.range la.length).map (nowAt la lo)
theorem now_len (la : List Bs) (lo : List (Int × Bs)) : (nowS la lo).length = la.length := by simp [nowS]
theorem now_get {la : List Bs} {lo : List (Int × Bs)} {j : Nat} (hj : j < la.length) : (nowS la lo)[j]? = some (nowAt la lo j) := map_range_get _ hj
structure Sim (la : List Bs) (lo : List (Int × Bs)) (nw : List Bs) (ls : List Int) : Prop where
  ok : LoOk lo la.length
  nd : (lo.map (·.1)).Nodup
  nw : nw = nowS la lo
  ls : ls = keysS lo
theorem keys_sorted {lo : List (Int × Bs)} (h : (lo.map (·.1)).Nodup) : (keysS lo).Pairwise (· < ·) := by
  have h1 : (keysS lo).Pairwise (fun x y => decide (x ≤ y) = true) := List.pairwise_mergeSort (fun a b c => by simp; omega) (fun a b => by simp; omega) _
  have h2 : (keysS lo).Nodup := (List.mergeSort_perm _ _).nodup_iff.2 h
  exact (h1.and h2).imp fun g => by have := g.1; have := g.2; simp at *; omega
theorem Sim.len {la : List Bs} {lo : List (Int × Bs)} {nw : List Bs} {ls : List Int} (h : Sim la lo nw ls) : nw.length = la.length := by rw [h.nw, now_len]
theorem Sim.ls_le {la : List Bs} {lo : List (Int × Bs)} {nw : List Bs} {ls : List Int} (h : Sim la lo nw ls) : ls.length ≤ la.length := by
  have g := nodup_len ls ((List.range la.length).map Int.ofNat) (by rw [h.ls]; exact (List.mergeSort_perm _ _).nodup_iff.2 h.nd) fun x hx => by
    rw [h.ls, keysS_mem] at hx
    have := h.ok.get hx
    unfold inS at this
    exact List.mem_map.2 ⟨x.toNat, List.mem_range.2 (by omega), by show ((x.toNat : Nat) : Int) = _; omega⟩
  rwa [List.length_map, List.length_range] at g
theorem put_nodup {lo : List (Int × Bs)} (h : (lo.map (·.1)).Nodup) (n : Int) (t : Bs) : ((putB lo n t).map (·.1)).Nodup := by
  rw [putB_keys]
  split
  · exact h
  · rename_i g
    exact List.nodup_append.2 ⟨h, by simp, fun a ha b hb => by rw [List.mem_singleton.1 hb]; exact fun e => g (e ▸ ha)⟩
theorem del_nodup {lo : List (Int × Bs)} (h : (lo.map (·.1)).Nodup) (n : Int) : ((delB lo n).map (·.1)).Nodup := h.sublist ((delB_sub n lo).map _)
theorem keys_put {lo : List (Int × Bs)} (h : (lo.map (·.1)).Nodup) (n : Int) (t : Bs) : withS n (!true) (keysS lo) = keysS (putB lo n t) :=
  sorted_eq (with_sorted (keys_sorted h)) (keys_sorted (put_nodup h n t)) fun x => by
    rw [with_mem, keysS_mem, keysS_mem, getB_put, if_pos rfl]
    by_cases e : x = n
    · simp [e]
    · simp [e]
theorem keys_del {lo : List (Int × Bs)} (h : (lo.map (·.1)).Nodup) (n : Int) : withS n (!false) (keysS lo) = keysS (delB lo n) :=
  sorted_eq (with_sorted (keys_sorted h)) (keys_sorted (del_nodup h n)) fun x => by
    rw [with_mem, keysS_mem, keysS_mem, getB_del _ _ _ h, if_neg (by decide)]
    by_cases e : x = n
    · simp [e]
    · simp [e]
theorem now_put {la : List Bs} {lo : List (Int × Bs)} {n : Int} (t : Bs) (hn : inS n la.length) : (nowS la lo).set n.toNat t = nowS la (putB lo n t) := by
  refine List.ext_getElem? fun j => ?_
  rw [List.getElem?_set, now_len]
  obtain ⟨h0, h1⟩ := hn
  by_cases e : n.toNat = j
  · subst e
    rw [if_pos rfl, if_pos (by omega), now_get (by omega)]
    unfold nowAt; rw [getB_put, if_pos (by omega)]; rfl
  · rw [if_neg e]
    rcases Nat.lt_or_ge j la.length with hj | hj
    · rw [now_get hj, now_get hj]; unfold nowAt; rw [getB_put, if_neg (by omega)]
    · rw [List.getElem?_eq_none (by rw [now_len]; exact hj), List.getElem?_eq_none (by rw [now_len]; exact hj)]
theorem now_del {la : List Bs} {lo : List (Int × Bs)} {n : Int} (t : Bs) (hn : inS n la.length) (hd : (lo.map (·.1)).Nodup) : (nowS la lo).set n.toNat t = nowS (la.set n.toNat t) (delB lo n) := by
  refine List.ext_getElem? fun j => ?_
  rw [List.getElem?_set, now_len]
  obtain ⟨h0, h1⟩ := hn
  have hl : (la.set n.toNat t).length = la.length := List.length_set
  by_cases e : n.toNat = j
  · subst e
    rw [if_pos rfl, if_pos (by omega), now_get (by omega)]
    unfold nowAt; rw [getB_del _ _ _ hd, if_pos (by omega), List.getElem?_set, if_pos rfl, if_pos (by omega)]; rfl
  · rw [if_neg e]
    rcases Nat.lt_or_ge j la.length with hj | hj
    · rw [now_get hj, now_get (by omega)]; unfold nowAt; rw [getB_del _ _ _ hd, if_neg (by omega), List.getElem?_set, if_neg e]
    · rw [List.getElem?_eq_none (by rw [now_len]; exact hj), List.getElem?_eq_none (by rw [now_len]; omega)]
theorem now_nil (la : List Bs) : nowS la [] = la := by
  refine List.ext_getElem? fun j => ?_
  rcases Nat.lt_or_ge j la.length with hj | hj
  · rw [now_get hj]; unfold nowAt; simp [getB, hj]
  · rw [List.getElem?_eq_none (by rw [now_len]; exact hj), List.getElem?_eq_none hj]
theorem now_sync {la : List Bs} {lo : List (Int × Bs)} (h : LoOk lo la.length) : settleS lo la (keysS lo) = nowS la lo := by
  refine List.ext_getElem? fun j => ?_
  rcases Nat.lt_or_ge j la.length with hj | hj
  · rw [settle_at h.nn j _ _ hj, now_get hj]
    simp only [keysS_mem]
    unfold nowAt
    cases e : getB lo (j : Int) with
    | none => simp [hj]
    | some s => simp
  · rw [List.getElem?_eq_none (by rw [settle_len]; exact hj), List.getElem?_eq_none (by rw [now_len]; exact hj)]
section
variable {la : List Bs} {lo : List (Int × Bs)} {nw : List Bs} {ls : List Int} (h : Sim la lo nw ls) {p q : Pw} {k : Nat} {n : Int} {s : Bs}
include h
theorem Sim.write_off (hp : PR k p q) (hq : useMB q = false) : Sim la (writeS p la.length lo n s) nw ls ∧ writeE p la.length n s = 6 := by
  have hb : ¬ useB p = true := by rw [hp.b, hq]; decide
  unfold writeS writeE
  rw [if_neg (fun g => hb g.1), if_neg hb]; exact ⟨h, rfl⟩
theorem Sim.write_bad (hp : PR k p q) (hq : useMB q = true) (hc : ¬ (s.length ≤ 64 ∧ inS n la.length)) : Sim la (writeS p la.length lo n s) nw ls ∧ writeE p la.length n s = 1 := by
  have hb : useB p = true := by rw [hp.b, hq]
  unfold writeS writeE
  rw [if_neg (fun g => hc g.2), if_pos hb, if_neg hc]; exact ⟨h, rfl⟩
theorem Sim.write_ok (hp : PR k p q) (hq : useMB q = true) (hs : s.length ≤ 64) (hn : inS n la.length) : Sim la (writeS p la.length lo n s) (nw.set n.toNat (fillS s)) (withS n (!true) ls) ∧ writeE p la.length n s = 0 := by
  have hb : useB p = true := by rw [hp.b, hq]
  unfold writeS writeE
  rw [if_pos ⟨hb, hs, hn⟩, if_pos hb, if_pos ⟨hs, hn⟩]
  exact ⟨⟨h.ok.put hn (fill_len hs), put_nodup h.nd _ _, by rw [h.nw, now_put _ hn], by rw [h.ls, keys_put h.nd]⟩, rfl⟩
theorem Sim.sync_off (hp : PR k p q) (hq : useMB q = false) : Sim (syncA p la lo) (syncO p lo) nw ls ∧ syncE p = 6 ∧ syncA p la lo = la := by
  have hb : ¬ useB p = true := by rw [hp.b, hq]; decide
  unfold syncA syncO syncE
  rw [if_neg hb, if_neg hb, if_neg hb]; exact ⟨h, rfl, rfl⟩
theorem Sim.sync_on (hp : PR k p q) (hq : useMB q = true) : Sim (syncA p la lo) (syncO p lo) nw [] ∧ syncE p = 0 ∧ syncA p la lo = nw := by
  have hb : useB p = true := by rw [hp.b, hq]
  unfold syncA syncO syncE
  rw [if_pos hb, if_pos hb, if_pos hb, now_sync h.ok, ← h.nw]
  exact ⟨⟨LoOk.nil _, List.nodup_nil, (now_nil nw).symm, keys_nil.symm⟩, rfl, rfl⟩
theorem Sim.put_bad (hc : ¬ (s.length ≤ 64 ∧ inS n la.length)) : Sim (putA la n s) (putO la.length lo n s) nw ls ∧ putE la.length n s = 1 ∧ putA la n s = la := by
  unfold putA putO putE
  rw [if_neg hc, if_neg hc, if_neg hc]; exact ⟨h, rfl, rfl⟩
theorem Sim.put_ok (hs : s.length ≤ 64) (hn : inS n la.length) : Sim (putA la n s) (putO la.length lo n s) (nw.set n.toNat (fillS s)) (withS n (!false) ls) ∧ putE la.length n s = 0 ∧ putA la n s = la.set n.toNat (fillS s) := by
  unfold putA putO putE
  rw [if_pos ⟨hs, hn⟩, if_pos ⟨hs, hn⟩, if_pos ⟨hs, hn⟩]
  exact ⟨⟨by rw [List.length_set]; exact h.ok.del n, del_nodup h.nd _, by rw [h.nw, now_del _ hn h.nd], by rw [h.ls, keys_del h.nd]⟩, rfl, rfl⟩
theorem Sim.read_ok {x : Bs} (hp : PR k p q) (hq : q.off = false) (hn : inS n la.length) (hx : nw[n.toNat]? = some x) : readS p la lo n = x ∧ readE p la n = 0 := by
  unfold readS readE
  rw [hp.off, hq, if_pos hn, if_pos hn]
  refine ⟨?_, rfl⟩
  rw [h.nw, now_get (by obtain ⟨h0, h1⟩ := hn; omega)] at hx
  rw [if_neg (by decide), ← Option.some.inj hx]
  unfold nowAt
  rw [show ((n.toNat : Nat) : Int) = n from by obtain ⟨h0, h1⟩ := hn; omega]
  cases getB lo n <;> rfl
end
theorem Sim.read_off {la : List Bs} {lo : List (Int × Bs)} {nw : List Bs} {ls : List Int} {p q : Pw} {k : Nat} {n : Int} (_h : Sim la lo nw ls) (hp : PR k p q) (hq : q.off = true) : readS p la lo n = [] ∧ readE p la n = 6 := by
  unfold readS readE; rw [hp.off, hq]; exact ⟨rfl, rfl⟩
theorem Sim.read_bad {la : List Bs} {lo : List (Int × Bs)} {nw : List Bs} {ls : List Int} {p q : Pw} {k : Nat} {n : Int} (_h : Sim la lo nw ls) (hp : PR k p q) (hq : q.off = false) (hn : ¬ inS n la.length) : readS p la lo n = [] ∧ readE p la n = 1 := by
  unfold readS readE; rw [hp.off, hq, if_neg hn, if_neg hn]; exact ⟨rfl, rfl⟩
/-- what a crash leaves, up to a place -/
def crA (la nw : List Bs) (keep : List Int) (k j : Nat) : Bs := if j < k ∧ (j : Int) ∈ keep then (nw[j]?).getD [] else (la[j]?).getD []
def crN (la nw : List Bs) (keep : List Int) (k j : Nat) : Bs := if j < k then crA la nw keep k j else (nw[j]?).getD []
def crAS (la nw : List Bs) (keep : List Int) (k : Nat) : List Bs := (List.range la.length).map (crA la nw keep k)
def crNS (la nw : List Bs) (keep : List Int) (k : Nat) : List Bs := (List.range la.length).map (crN la nw keep k)
theorem cr_map {la : List Bs} : (List.range la.length).map (fun j => (la[j]?).getD []) = la := by
  refine List.ext_getElem? fun j => ?_
  rcases Nat.lt_or_ge j la.length with hj | hj
  · rw [map_range_get _ hj]; simp [hj]
  · rw [List.getElem?_eq_none (by simp; exact hj), List.getElem?_eq_none hj]
theorem crA_zero {la nw : List Bs} {keep : List Int} : crAS la nw keep 0 = la := by
  unfold crAS; rw [← cr_map (la := la)]
  simp only [List.length_map, List.length_range]
  refine List.map_congr_left fun j hj => ?_
  unfold crA; rw [if_neg (fun g => absurd g.1 (Nat.not_lt_zero _)), cr_map]
theorem crN_zero {la nw : List Bs} {keep : List Int} (h : nw.length = la.length) : crNS la nw keep 0 = nw := by
  have e : crNS la nw keep 0 = (List.range nw.length).map (fun j => (nw[j]?).getD []) := by
    unfold crNS; rw [h]
    refine List.map_congr_left fun j hj => ?_
    unfold crN; rw [if_neg (Nat.not_lt_zero _)]
  rw [e, cr_map]
theorem crA_yes {la nw : List Bs} {keep : List Int} {k : Nat} {x : Bs} (hk : k < la.length) (hm : (k : Int) ∈ keep) (hx : (crNS la nw keep k)[k]? = some x) : (crAS la nw keep k).set k x = crAS la nw keep (k + 1) := by
  unfold crNS at hx
  rw [map_range_get _ hk] at hx
  have hx := Option.some.inj hx
  unfold crN at hx; rw [if_neg (Nat.lt_irrefl _)] at hx
  refine List.ext_getElem? fun j => ?_
  have hl : (crAS la nw keep k).length = la.length := by simp [crAS]
  rw [List.getElem?_set, hl]
  by_cases e : k = j
  · subst e; rw [if_pos rfl, if_pos hk, show (crAS la nw keep (k + 1))[k]? = some (crA la nw keep (k + 1) k) from map_range_get _ hk]
    unfold crA; rw [if_pos ⟨by omega, hm⟩, hx]
  · rw [if_neg e]
    rcases Nat.lt_or_ge j la.length with hj | hj
    · rw [show (crAS la nw keep (k + 1))[j]? = some (crA la nw keep (k + 1) j) from map_range_get _ hj, show (crAS la nw keep k)[j]? = some (crA la nw keep k j) from map_range_get _ hj]
      unfold crA
      by_cases g : j < k
      · simp [g, show j < k + 1 by omega]
      · simp [g, show ¬ j < k + 1 by omega]
    · rw [List.getElem?_eq_none (by rw [hl]; exact hj), List.getElem?_eq_none (by simp [crAS]; exact hj)]
theorem crA_no {la nw : List Bs} {keep : List Int} {k : Nat} (hm : ¬ (k : Int) ∈ keep) : crAS la nw keep k = crAS la nw keep (k + 1) := by
  unfold crAS
  refine List.map_congr_left fun j hj => ?_
  unfold crA
  by_cases e : j = k
  · subst e; simp [hm]
  · by_cases g : j < k
    · simp [g, show j < k + 1 by omega]
    · simp [g, show ¬ j < k + 1 by omega]
theorem crN_step {la nw : List Bs} {keep : List Int} {k : Nat} {x : Bs} (hk : k < la.length) (hx : (crAS la nw keep (k + 1))[k]? = some x) : (crNS la nw keep k).set k x = crNS la nw keep (k + 1) := by
  rw [show (crAS la nw keep (k + 1))[k]? = some (crA la nw keep (k + 1) k) from map_range_get _ hk] at hx
  have hx := Option.some.inj hx
  refine List.ext_getElem? fun j => ?_
  have hl : (crNS la nw keep k).length = la.length := by simp [crNS]
  rw [List.getElem?_set, hl]
  by_cases e : k = j
  · subst e; rw [if_pos rfl, if_pos hk, show (crNS la nw keep (k + 1))[k]? = some (crN la nw keep (k + 1) k) from map_range_get _ hk]
    unfold crN; rw [if_pos (by omega), hx]
  · rw [if_neg e]
    rcases Nat.lt_or_ge j la.length with hj | hj
    · rw [show (crNS la nw keep (k + 1))[j]? = some (crN la nw keep (k + 1) j) from map_range_get _ hj, show (crNS la nw keep k)[j]? = some (crN la nw keep k j) from map_range_get _ hj]
      unfold crN crA
      by_cases g : j < k
      · simp [g, show j < k + 1 by omega]
      · simp [g, show ¬ j < k + 1 by omega]
    · rw [List.getElem?_eq_none (by rw [hl]; exact hj), List.getElem?_eq_none (by simp [crNS]; exact hj)]
theorem cr_len (la nw : List Bs) (keep : List Int) (k : Nat) : (crAS la nw keep k).length = la.length ∧ (crNS la nw keep k).length = la.length := by simp [crAS, crNS]
theorem Sim.crash {la : List Bs} {lo : List (Int × Bs)} {nw : List Bs} {ls : List Int} (h : Sim la lo nw ls) (keep : List Int) :
    crAS la nw keep la.length = settleS lo la keep ∧ crNS la nw keep la.length = settleS lo la keep ∧ Sim (settleS lo la keep) [] (settleS lo la keep) [] := by
  have e : crAS la nw keep la.length = settleS lo la keep := by
    refine List.ext_getElem? fun j => ?_
    rcases Nat.lt_or_ge j la.length with hj | hj
    · rw [show (crAS la nw keep la.length)[j]? = some (crA la nw keep la.length j) from map_range_get _ hj, settle_at h.ok.nn j _ _ hj]
      unfold crA
      rw [h.nw, now_get hj]
      unfold nowAt
      by_cases g : (j : Int) ∈ keep
      · cases e : getB lo (j : Int) with
        | none => simp [hj]
        | some s => simp [hj, g]
      · simp [g, hj]
    · rw [List.getElem?_eq_none (by rw [(cr_len la nw keep la.length).1]; exact hj), List.getElem?_eq_none (by rw [settle_len]; exact hj)]
  refine ⟨e, ?_, ⟨LoOk.nil _, List.nodup_nil, (now_nil _).symm, keys_nil.symm⟩⟩
  rw [← e]
  unfold crNS crAS
  refine List.map_congr_left fun j hj => ?_
  unfold crN; rw [if_pos (List.mem_range.1 hj)]
theorem Sim.new (k : Nat) : Sim (List.replicate k blankS) [] (List.replicate k blankS) [] := ⟨LoOk.nil _, List.nodup_nil, (now_nil _).symm, keys_nil.symm⟩
theorem lasts_at {la : List Bs} {n : Int} {x : Bs} (hn : inS n la.length) (hx : la[n.toNat]? = some x) : lastsS la n = x := by unfold lastsS; rw [if_pos hn, hx]; rfl
end Go.Q
