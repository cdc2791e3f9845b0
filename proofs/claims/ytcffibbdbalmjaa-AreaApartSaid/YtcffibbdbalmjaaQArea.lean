/-
  Layer 6, the plain law: the parts of sectors that bytes from a place on touch; what is got, what is set.
-/
import Derived.Test.YtcffibbdbalmjaaQDevM
import Derived.Test.YtcffibbdbalmjaaQNums
set_option linter.unusedVariables false
set_option linter.unusedSimpArgs false
namespace Go.Q
structure Pc where
  sec : Int
  frm : Int
  upto : Int
def pcC (p : Pc) : List Value := [iV p.sec, iV p.frm, iV p.upto]
theorem pcC_len (p : Pc) : (pcC p).length = 3 := rfl
theorem one_pcC (l : List Pc) : ∀ u ∈ l.flatMap pcC, u.oneCell' = true := by
  intro u hu
  obtain ⟨p, _, hp⟩ := List.mem_flatMap.1 hu
  simp only [pcC, List.mem_cons, List.not_mem_nil, or_false] at hp
  rcases hp with rfl | rfl | rfl <;> rfl
def piece1 (fr at_ size : Int) : Pc := ⟨fr + at_ / 64, at_ % 64, min (at_ % 64 + size) 64⟩
def piecesS (fr L : Int) : Nat → Int → Int → List Pc
  | 0, _, _ => []
  | f + 1, at_, size => if size ≤ 0 then [] else piece1 fr at_ size :: piecesS fr L f ((at_ + ((piece1 fr at_ size).upto - (piece1 fr at_ size).frm)) % L) (size - ((piece1 fr at_ size).upto - (piece1 fr at_ size).frm))
theorem piece1_d {fr at_ size : Int} (h0 : 0 ≤ at_) (hs : 0 < size) : 0 < (piece1 fr at_ size).upto - (piece1 fr at_ size).frm ∧ (piece1 fr at_ size).upto - (piece1 fr at_ size).frm ≤ size ∧ 0 ≤ (piece1 fr at_ size).frm ∧ (piece1 fr at_ size).frm < 64 ∧ (piece1 fr at_ size).upto ≤ 64 := by
  unfold piece1; simp only; omega
theorem pieces_fuel (fr L : Int) (hL : 0 < L) : ∀ (f g : Nat) (at_ size : Int), 0 ≤ at_ → size.toNat ≤ f → size.toNat ≤ g → piecesS fr L f at_ size = piecesS fr L g at_ size
  | 0, 0, _, _, _, _, _ => rfl
  | 0, g + 1, at_, size, _, h, _ => by rw [piecesS, piecesS, if_pos (by omega)]
  | f + 1, 0, at_, size, _, _, h => by rw [piecesS, piecesS, if_pos (by omega)]
  | f + 1, g + 1, at_, size, h0, h1, h2 => by
    rw [piecesS, piecesS]
    split
    · rfl
    · obtain ⟨d1, d2, _⟩ := piece1_d (fr := fr) h0 (size := size) (by omega)
      rw [pieces_fuel fr L hL f g _ _ (Int.emod_nonneg _ (by omega)) (by omega) (by omega)]
/-- all pieces -/
def allP (fr L at_ size : Int) : List Pc := piecesS fr L size.toNat at_ size
theorem allP_none {fr L at_ size : Int} (h : size ≤ 0) : allP fr L at_ size = [] := by
  unfold allP; rw [show size.toNat = 0 by omega]; rfl
theorem allP_step {fr L at_ size : Int} (hL : 0 < L) (h0 : 0 ≤ at_) (hs : 0 < size) : allP fr L at_ size = piece1 fr at_ size :: allP fr L ((at_ + ((piece1 fr at_ size).upto - (piece1 fr at_ size).frm)) % L) (size - ((piece1 fr at_ size).upto - (piece1 fr at_ size).frm)) := by
  unfold allP
  obtain ⟨k, hk⟩ : ∃ k, size.toNat = k + 1 := ⟨size.toNat - 1, by omega⟩
  rw [hk, piecesS, if_neg (by omega)]
  obtain ⟨d1, d2, _⟩ := piece1_d (fr := fr) h0 hs
  rw [pieces_fuel fr L hL k (size - ((piece1 fr at_ size).upto - (piece1 fr at_ size).frm)).toNat _ _ (Int.emod_nonneg _ (by omega)) (by omega) (Nat.le_refl _)]
/-- what is known of each piece -/
def PcOk (fr n : Int) (p : Pc) : Prop := fr ≤ p.sec ∧ p.sec < fr + n ∧ 0 ≤ p.frm ∧ p.frm < p.upto ∧ p.upto ≤ 64
theorem pieces_ok {fr n : Int} (hn : 0 < n) : ∀ (f : Nat) (at_ size : Int), 0 ≤ at_ → at_ < n * 64 → ∀ p ∈ piecesS fr (n * 64) f at_ size, PcOk fr n p
  | 0, _, _, _, _, p, hp => by cases hp
  | f + 1, at_, size, h0, h1, p, hp => by
    rw [piecesS] at hp
    split at hp
    · cases hp
    · rcases List.mem_cons.1 hp with rfl | hp
      · obtain ⟨d1, d2, d3, d4, d5⟩ := piece1_d (fr := fr) h0 (size := size) (by omega)
        refine ⟨?_, ?_, d3, by omega, d5⟩
        · show fr ≤ fr + at_ / 64; omega
        · show fr + at_ / 64 < fr + n; omega
      · exact pieces_ok hn f _ _ (Int.emod_nonneg _ (by omega)) (Int.emod_lt_of_pos _ (by omega)) p hp
def plen (ps : List Pc) : Int := (ps.map (fun p => p.upto - p.frm)).foldr (· + ·) 0
theorem pieces_len {fr L : Int} (hL : 0 < L) : ∀ (f : Nat) (at_ size : Int), 0 ≤ at_ → 0 ≤ size → size.toNat ≤ f → plen (piecesS fr L f at_ size) = size
  | 0, at_, size, _, h1, h2 => by show (0 : Int) = size; omega
  | f + 1, at_, size, h0, h1, h2 => by
    rw [piecesS]
    split
    · show (0 : Int) = size; omega
    · obtain ⟨d1, d2, _⟩ := piece1_d (fr := fr) h0 (size := size) (by omega)
      show ((piece1 fr at_ size).upto - (piece1 fr at_ size).frm) + plen (piecesS fr L f _ _) = size
      rw [pieces_len hL f _ _ (Int.emod_nonneg _ (by omega)) (by omega) (by omega)]; omega
theorem pieces_count {fr L : Int} : ∀ (f : Nat) (at_ size : Int), (piecesS fr L f at_ size).length ≤ f
  | 0, _, _ => Nat.le_refl _
  | f + 1, at_, size => by
    rw [piecesS]
    split
    · simp
    · simp only [List.length_cons]; have := pieces_count (fr := fr) (L := L) f ((at_ + ((piece1 fr at_ size).upto - (piece1 fr at_ size).frm)) % L) (size - ((piece1 fr at_ size).upto - (piece1 fr at_ size).frm)); omega
theorem plen_nn : ∀ {ps : List Pc}, (∀ p ∈ ps, p.frm < p.upto) → 0 ≤ plen ps
  | [], _ => Int.le_refl _
  | p :: ps, h => by
    have h1 := plen_nn fun q hq => h q (List.mem_cons_of_mem _ hq)
    have h2 := h p List.mem_cons_self
    show 0 ≤ (p.upto - p.frm) + plen ps
    omega
theorem plen_drop {ps : List Pc} {j : Nat} {x : Pc} {fr n : Int} (hk : ∀ p ∈ ps, PcOk fr n p) (hx : ps[j]? = some x) : plen (ps.drop j) = (x.upto - x.frm) + plen (ps.drop (j + 1)) ∧ 0 ≤ plen (ps.drop (j + 1)) := by
  rw [drop_of hx]
  exact ⟨rfl, plen_nn fun p hp => (hk p (List.mem_of_mem_drop hp)).2.2.2.1⟩
theorem sum2 {a b : Int} (ha : 0 ≤ a ∧ a ≤ 1000000000) (hb : 0 ≤ b ∧ b ≤ 1000000000) : sumS 0 [a, b] = a + b := by
  simp only [sumS]; rw [if_neg (by omega), if_neg (by omega)]; omega
theorem flat_take_le (l : List Bs) (i : Nat) : (l.take i).flatten.length ≤ l.flatten.length := by
  have h : (l.take i ++ l.drop i).flatten.length = l.flatten.length := by rw [List.take_append_drop]
  rw [List.flatten_append, List.length_append] at h; omega
-- what is got
def part (x : Bs) (p : Pc) : Bs := (x.take p.upto.toNat).drop p.frm.toNat
def getP (la : List Bs) (lo : List (Int × Bs)) (ps : List Pc) : Bs := ps.flatMap fun p => part (nowAt la lo p.sec.toNat) p
theorem getP_snoc (la : List Bs) (lo : List (Int × Bs)) (a : List Pc) (p : Pc) : getP la lo (a ++ [p]) = getP la lo a ++ part (nowAt la lo p.sec.toNat) p := by
  unfold getP; rw [List.flatMap_append, List.flatMap_cons, List.flatMap_nil, List.append_nil]
-- what is set
def put1 (la : List Bs) (lo : List (Int × Bs)) (p : Pc) (all : Bs) : Bs := (nowAt la lo p.sec.toNat).take p.frm.toNat ++ (all.take (p.upto - p.frm).toNat ++ (nowAt la lo p.sec.toNat).drop p.upto.toNat)
def setP (la : List Bs) : List Pc → List (Int × Bs) → Bs → List (Int × Bs)
  | [], lo, _ => lo
  | p :: ps, lo, all => setP la ps (putB lo p.sec (fillS (put1 la lo p all))) (all.drop (p.upto - p.frm).toNat)
/-- sectors of 64 bytes -/
def Full64 (la : List Bs) : Prop := ∀ s ∈ la, s.length = 64
theorem nowAt_len {la : List Bs} {lo : List (Int × Bs)} (h : Full64 la) (ho : LoOk lo la.length) {j : Nat} (hj : j < la.length) : (nowAt la lo j).length = 64 := by
  unfold nowAt
  cases e : getB lo (j : Int) with
  | none => rw [List.getElem?_eq_getElem hj]; exact h _ (List.getElem_mem hj)
  | some s =>
    have hm : ∀ (l : List (Int × Bs)), getB l (j : Int) = some s → ∃ k, (k, s) ∈ l := by
      intro l
      induction l with
      | nil => intro h; cases h
      | cons q t ih =>
        obtain ⟨a, u⟩ := q
        intro h
        rw [getB] at h
        split at h
        · cases h; exact ⟨a, List.mem_cons_self⟩
        · obtain ⟨k, hk⟩ := ih h; exact ⟨k, List.mem_cons_of_mem _ hk⟩
    obtain ⟨k, hk⟩ := hm lo e
    exact (ho _ hk).2
theorem put1_len {la : List Bs} {lo : List (Int × Bs)} {p : Pc} {all : Bs} {fr n : Int} (hp : PcOk fr n p) (hx : (nowAt la lo p.sec.toNat).length = 64) (ha : p.upto - p.frm ≤ all.length) : (put1 la lo p all).length = 64 := by
  obtain ⟨h1, h2, h3, h4, h5⟩ := hp
  unfold put1
  simp only [List.length_append, List.length_take, List.length_drop, hx]; omega
theorem setP_other {la : List Bs} {j : Nat} : ∀ (ps : List Pc) (lo : List (Int × Bs)) (all : Bs), (∀ p ∈ ps, p.sec ≠ (j : Int)) → nowAt la (setP la ps lo all) j = nowAt la lo j
  | [], _, _, _ => rfl
  | p :: ps, lo, all, h => by
    rw [setP, setP_other ps _ _ fun q hq => h q (List.mem_cons_of_mem _ hq)]
    unfold nowAt
    rw [getB_put, if_neg (fun e => h p List.mem_cons_self e.symm)]
theorem getP_congr {la : List Bs} {lo lo' : List (Int × Bs)} {ps : List Pc} (h : ∀ p ∈ ps, nowAt la lo p.sec.toNat = nowAt la lo' p.sec.toNat) : getP la lo ps = getP la lo' ps := by
  unfold getP
  induction ps with
  | nil => rfl
  | cons p ps ih =>
    rw [List.flatMap_cons, List.flatMap_cons, h p List.mem_cons_self, ih fun q hq => h q (List.mem_cons_of_mem _ hq)]
theorem read_now {p : Pw} {k : Nat} (h : Calm p k) {la : List Bs} {lo : List (Int × Bs)} {n : Int} (hn : inS n la.length) : readS p la lo n = nowAt la lo n.toNat ∧ readE p la n = 0 := by
  unfold readS readE nowAt
  rw [h.off, if_pos hn, if_pos hn]
  refine ⟨?_, rfl⟩
  rw [if_neg (by decide), show ((n.toNat : Nat) : Int) = n from by obtain ⟨h0, h1⟩ := hn; omega]
  cases getB lo n <;> rfl
theorem write_now {p : Pw} {k : Nat} (h : Calm p k) {m : Nat} {lo : List (Int × Bs)} {n : Int} {s : Bs} (hn : inS n m) (hs : s.length = 64) : writeS p m lo n s = putB lo n (fillS s) ∧ writeE p m n s = 0 := by
  unfold writeS writeE
  rw [if_pos ⟨h.b, by omega, hn⟩, if_pos h.b, if_pos ⟨by omega, hn⟩]; exact ⟨rfl, rfl⟩
end Go.Q
