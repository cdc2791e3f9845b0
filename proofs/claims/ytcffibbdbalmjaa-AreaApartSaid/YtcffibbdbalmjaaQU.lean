/-
  Operations on numbers of 32 bits, told by bit vectors; a table behind an address.
-/
import Derived.Test.YtcffibbdbalmjaaQX
import Derived.Test.YtcffibbdbalmjaaQCrc
import Derived.Test.YtcffibbdbalmjaaQNums
set_option linter.unusedVariables false
set_option linter.unusedSimpArgs false
namespace Go.Q
def uV (x : BitVec 32) : Value := .int .u32 (x.toNat : Int)
theorem ofInt_toNat (x : BitVec 32) : BitVec.ofInt 32 (x.toNat : Int) = x := by
  rw [BitVec.ofInt_natCast, BitVec.ofNat_toNat, BitVec.setWidth_eq]
theorem wrap_u32 {n : Int} (h0 : 0 ≤ n) (h1 : n < 4294967296) : IntKind.wrap .u32 n = n := by
  simp only [IntKind.wrap, IntKind.bits, IntKind.signed]
  simp
  exact Int.emod_eq_of_lt h0 (by simpa using h1)
theorem u32_lt (x : BitVec 32) : (x.toNat : Int) < 4294967296 := by have := x.isLt; omega
theorem xor32 (x y : BitVec 32) : IntKind.wrap .u32 ((BitVec.ofInt 32 (x.toNat : Int) ^^^ BitVec.ofInt 32 (y.toNat : Int)).toNat : Int) = ((x ^^^ y).toNat : Int) := by
  rw [ofInt_toNat, ofInt_toNat, wrap_u32 (by omega) (u32_lt _)]
theorem and32 (x y : BitVec 32) : IntKind.wrap .u32 ((BitVec.ofInt 32 (x.toNat : Int) &&& BitVec.ofInt 32 (y.toNat : Int)).toNat : Int) = ((x &&& y).toNat : Int) := by
  rw [ofInt_toNat, ofInt_toNat, wrap_u32 (by omega) (u32_lt _)]
theorem shr32 (x : BitVec 32) (n : Nat) (h : n ≤ 32) : Int.fdiv (x.toNat : Int) (2 ^ (min ((n : Int)).toNat (IntKind.bits .u32))) = ((x >>> n).toNat : Int) := by
  rw [show min ((n : Int)).toNat (IntKind.bits .u32) = n from by simp [IntKind.bits]; omega, BitVec.toNat_ushiftRight, Nat.shiftRight_eq_div_pow,
    show ((2 : Int) ^ n) = ((2 ^ n : Nat) : Int) from by rw [Int.natCast_pow]; rfl, Int.fdiv_eq_ediv_of_nonneg _ (Int.natCast_nonneg _)]
  exact (Int.natCast_ediv _ _).symm
theorem shr8 (c : UInt8) (n : Nat) (h : n ≤ 8) : Int.fdiv (c.toNat : Int) (2 ^ (min ((n : Int)).toNat (IntKind.bits .u8))) = ((c.toNat >>> n : Nat) : Int) := by
  rw [show min ((n : Int)).toNat (IntKind.bits .u8) = n from by simp [IntKind.bits]; omega, Nat.shiftRight_eq_div_pow,
    show ((2 : Int) ^ n) = ((2 ^ n : Nat) : Int) from by rw [Int.natCast_pow]; rfl, Int.fdiv_eq_ediv_of_nonneg _ (Int.natCast_nonneg _)]
  exact (Int.natCast_ediv _ _).symm
theorem quo32 (x : BitVec 32) (m k : Nat) (hm : m = 2 ^ k) : IntKind.wrap .u32 ((x.toNat : Int).tdiv (m : Int)) = ((x >>> k).toNat : Int) := by
  subst hm
  rw [Int.tdiv_eq_ediv_of_nonneg (by omega), BitVec.toNat_ushiftRight, Nat.shiftRight_eq_div_pow, ← Int.natCast_ediv]
  exact wrap_u32 (Int.natCast_nonneg _) (Int.ofNat_lt.2 (Nat.lt_of_le_of_lt (Nat.div_le_self x.toNat (2 ^ k)) x.isLt))
theorem not32 (x : BitVec 32) : 4294967295 - (x.toNat : Int) = ((~~~ x).toNat : Int) := by
  rw [BitVec.toNat_not]; have := x.isLt; omega
theorem sub32 (x : BitVec 32) : IntKind.wrap .u32 (4294967295 - (x.toNat : Int)) = ((~~~ x).toNat : Int) := by
  rw [not32]; exact wrap_u32 (by omega) (u32_lt _)
theorem b32_nat (b : UInt8) : (b.toNat : Int) = ((b32 b).toNat : Int) := by
  unfold b32
  rw [BitVec.toNat_ofNat, Nat.mod_eq_of_lt (by have := b.toNat_lt; omega)]
theorem conv_b32 (b : UInt8) : IntKind.wrap .u32 (b.toNat : Int) = ((b32 b).toNat : Int) := by
  rw [b32_nat]; exact wrap_u32 (by omega) (u32_lt _)
/-- the low byte -/
def lo8 (x : BitVec 32) : UInt8 := UInt8.ofNat x.toNat
theorem conv_lo8 (x : BitVec 32) : IntKind.wrap .u8 (x.toNat : Int) = ((lo8 x).toNat : Int) := by
  simp only [IntKind.wrap, IntKind.bits, IntKind.signed]
  simp [lo8]
theorem and15_lt (x : BitVec 32) : (x &&& 15#32).toNat < 16 := by
  rw [BitVec.toNat_and]; exact Nat.lt_of_le_of_lt Nat.and_le_right (by decide)
/-- the table -/
def nibV : List Value := [.int .u32 0, .int .u32 498536548, .int .u32 997073096, .int .u32 651767980, .int .u32 1994146192, .int .u32 1802195444, .int .u32 1303535960, .int .u32 1342533948, .int .u32 3988292384, .int .u32 4027552580, .int .u32 3604390888, .int .u32 3412177804, .int .u32 2607071920, .int .u32 2262029012, .int .u32 2685067896, .int .u32 3183342108]
def nibL : List Int := [0, 498536548, 997073096, 651767980, 1994146192, 1802195444, 1303535960, 1342533948, 3988292384, 4027552580, 3604390888, 3412177804, 2607071920, 2262029012, 2685067896, 3183342108]
theorem nibV_L {i : Nat} {v : Value} (h : nibV[i]? = some v) : ∃ z, nibL[i]? = some z ∧ v = .int .u32 z := by
  have e : nibV = nibL.map (fun z => Value.int .u32 z) := rfl
  rw [e, List.getElem?_map, Option.map_eq_some_iff] at h
  obtain ⟨z, h1, h2⟩ := h
  exact ⟨z, h1, h2.symm⟩
theorem nibV_at : ∀ i, i < 16 → nibV[i]? = some (uV (nib i)) := by
  have : ∀ i, i < 16 → (nib i).toNat = [0, 498536548, 997073096, 651767980, 1994146192, 1802195444, 1303535960, 1342533948, 3988292384, 4027552580, 3604390888, 3412177804, 2607071920, 2262029012, 2685067896, 3183342108].getD i 0 := by decide
  intro i hi
  unfold uV
  rw [this i hi]
  rcases i with _ | _ | _ | _ | _ | _ | _ | _ | _ | _ | _ | _ | _ | _ | _ | _ | i <;> first | rfl | omega
theorem nib_at {L : List Hp} {g : Nat} (h : CellsAt L g 0 nibV) (x : BitVec 32) : CellsAt L g (0 + (x &&& 15#32).toNat) [uV (nib (x &&& 15#32).toNat)] :=
  h.sub fun j v hv => by
    cases j with
    | zero => rw [Nat.add_zero, nibV_at _ (and15_lt x)]; simpa using hv
    | succ j => simp at hv
theorem cby_nib (r : BitVec 32) (c : UInt8) : cby r c = (((r ^^^ b32 c) >>> 4 ^^^ nib ((r ^^^ b32 c) &&& 15#32).toNat) >>> 4) ^^^ nib (((r ^^^ b32 c) >>> 4 ^^^ nib ((r ^^^ b32 c) &&& 15#32).toNat) &&& 15#32).toNat := by
  rw [← cbs4, ← cbs4, ← cbs_add]; rfl
theorem cbs_succ' (n : Nat) (r : BitVec 32) : cbs (n + 1) r = cb (cbs n r) := cbs_add n 1 r
theorem bit_and1 (x : BitVec 32) : (x &&& 1#32).toNat = x.toNat % 2 := by
  rw [BitVec.toNat_and]; exact Nat.and_one_is_mod _
theorem bit0 (x : BitVec 32) : x.getLsbD 0 = decide (x.toNat % 2 = 1) := by
  rw [BitVec.getLsbD, Nat.testBit_zero]
theorem bit0_out (r x : BitVec 32) : (r ^^^ (x &&& 1#32)).getLsbD 0 = decide (r.toNat % 2 ≠ x.toNat % 2) := by
  rw [BitVec.getLsbD_xor, bit0, bit0, bit_and1]
  have h1 : r.toNat % 2 = 0 ∨ r.toNat % 2 = 1 := by omega
  have h2 : x.toNat % 2 = 0 ∨ x.toNat % 2 = 1 := by omega
  rcases h1 with h1 | h1 <;> rcases h2 with h2 | h2 <;> simp [h1, h2]
theorem shr_and1 (r x : BitVec 32) : (r ^^^ (x &&& 1#32)) >>> 1 = r >>> 1 := by
  rw [BitVec.ushiftRight_xor_distrib]
  have : (x &&& 1#32) >>> 1 = 0#32 := by
    apply BitVec.eq_of_toNat_eq
    rw [BitVec.toNat_ushiftRight, bit_and1, Nat.shiftRight_eq_div_pow]
    show x.toNat % 2 / 2 ^ 1 = 0
    omega
  rw [this, BitVec.xor_zero]
theorem b32_shr (c : UInt8) (j : Nat) : (b32 c >>> j).toNat = c.toNat >>> j := by
  rw [BitVec.toNat_ushiftRight]; congr 1; have := b32_nat c; omega
theorem bits_yes {r r0 : BitVec 32} {c : UInt8} {j : Nat} (h : r ^^^ (b32 c >>> j) = cbs j (r0 ^^^ b32 c)) (hb : (r.toNat : Int) % 2 ≠ ((c.toNat >>> j : Nat) : Int) % 2) (_h8 : j < 8) :
    ((r >>> 1) ^^^ 3988292384#32) ^^^ (b32 c >>> (j + 1)) = cbs (j + 1) (r0 ^^^ b32 c) := by
  have e : cb (r ^^^ ((b32 c >>> j) &&& 1#32)) = (r >>> 1) ^^^ 3988292384#32 := by
    unfold cb
    rw [if_pos (by rw [bit0_out, b32_shr]; exact decide_eq_true (by omega)), shr_and1]
  rw [← e, BitVec.shiftRight_add, step_bit, h, cbs_succ']
theorem bits_no {r r0 : BitVec 32} {c : UInt8} {j : Nat} (h : r ^^^ (b32 c >>> j) = cbs j (r0 ^^^ b32 c)) (hb : ¬ (r.toNat : Int) % 2 ≠ ((c.toNat >>> j : Nat) : Int) % 2) (_h8 : j < 8) :
    (r >>> 1) ^^^ (b32 c >>> (j + 1)) = cbs (j + 1) (r0 ^^^ b32 c) := by
  have e : cb (r ^^^ ((b32 c >>> j) &&& 1#32)) = r >>> 1 := by
    unfold cb
    rw [if_neg (by rw [bit0_out, b32_shr]; simp; omega), shr_and1]
  rw [← e, BitVec.shiftRight_add, step_bit, h, cbs_succ']
theorem bits_done {r r0 : BitVec 32} {c : UInt8} {j : Nat} (h : r ^^^ (b32 c >>> j) = cbs j (r0 ^^^ b32 c)) (h8 : j = 8) : r = cby r0 c := by
  subst h8
  have e : b32 c >>> 8 = 0#32 := by
    apply BitVec.eq_of_toNat_eq
    rw [b32_shr, Nat.shiftRight_eq_div_pow]
    have := c.toNat_lt
    show c.toNat / 256 = 0
    omega
  rw [e, BitVec.xor_zero] at h
  exact h
theorem crcF_snoc (r : BitVec 32) (l : List UInt8) (c : UInt8) : crcF r (l ++ [c]) = cby (crcF r l) c := by rw [crcF_append]; rfl
/-- a sum, laid -/
def laidS (x : BitVec 32) : List UInt8 := [lo8 x, lo8 (x >>> 8), lo8 (x >>> 16), lo8 (x >>> 24)]
theorem laidS_len (x : BitVec 32) : (laidS x).length = 4 := rfl
theorem by8_lo (x : BitVec 32) : by8 ((x.toNat : Int) % 256) = lo8 x := by
  unfold by8 lo8
  apply UInt8.toNat_inj.1
  rw [UInt8.toNat_ofNat', UInt8.toNat_ofNat']
  omega
theorem laidS_ref (x : BitVec 32) : [by8 ((x.toNat : Int) % 256), by8 (((x >>> 8).toNat : Int) % 256), by8 (((x >>> 16).toNat : Int) % 256), lo8 (x >>> 24)] = laidS x := by
  rw [by8_lo, by8_lo, by8_lo]; rfl
def sealS (t : List UInt8) : List UInt8 := t ++ laidS (crcS t)
def openS (t : List UInt8) : List UInt8 × Bool :=
  if 4 ≤ t.length ∧ laidS (crcS (t.take ((t.length : Int) - 4).toNat)) = t.drop ((t.length : Int) - 4).toNat then (t.take ((t.length : Int) - 4).toNat, true) else ([], false)
theorem openS_yes {t : List UInt8} (h : 4 ≤ t.length) (h2 : laidS (crcS ([t.take ((t.length : Int) - 4).toNat].flatten)) = t.drop ((t.length : Int) - 4).toNat) : openS t = (t.take ((t.length : Int) - 4).toNat, true) := by
  rw [List.flatten_cons, List.flatten_nil, List.append_nil] at h2
  unfold openS; rw [if_pos ⟨h, h2⟩]
theorem openS_no {t : List UInt8} (h : t.length < 4 ∨ laidS (crcS ([t.take ((t.length : Int) - 4).toNat].flatten)) ≠ t.drop ((t.length : Int) - 4).toNat) : openS t = ([], false) := by
  rw [List.flatten_cons, List.flatten_nil, List.append_nil] at h
  unfold openS; rw [if_neg (fun g => h.elim (fun h => by omega) (fun h => h g.2))]
theorem openS_yes2 {t : List UInt8} (h : 4 ≤ t.length) (h2 : laidS (crcS (t.take ((t.length : Int) - 4).toNat)) = t.drop ((t.length : Int) - 4).toNat) : openS t = (t.take ((t.length : Int) - 4).toNat, true) := openS_yes h (by simpa using h2)
theorem openS_no2 {t : List UInt8} (h : t.length < 4 ∨ laidS (crcS (t.take ((t.length : Int) - 4).toNat)) ≠ t.drop ((t.length : Int) - 4).toNat) : openS t = ([], false) := openS_no (by simpa using h)
theorem all_no {l : List (List UInt8)} {x : List UInt8} (hx : x ∈ l) (h : (openS x).2 = false) : l.all (fun x => (openS x).2) = false := by
  rw [List.all_eq_false]; exact ⟨x, hx, by rw [h]; decide⟩
theorem flat_le {l : List (List UInt8)} {x : List UInt8} (hx : x ∈ l) : x.length ≤ l.flatten.length := by
  induction l with
  | nil => cases hx
  | cons a t ih =>
    rw [List.flatten_cons, List.length_append]
    rcases List.mem_cons.1 hx with e | h
    · rw [e]; omega
    · have := ih h; omega
theorem lawjoin_end {l : List (List UInt8)} {t : List UInt8} {k : Nat} (ht : t = (l.take k).flatten) (he : k = l.length) (hk : k ≤ 20) (h : t.length ≤ 2000) : l.length ≤ 20 ∧ t = l.flatten ∧ l.flatten.length ≤ 2000 := by
  subst he
  rw [List.take_length] at ht
  exact ⟨hk, ht, by rw [← ht]; exact h⟩
theorem emod_b (a b : Int) (h : 0 < b) : 0 ≤ a % b ∧ a % b < b := ⟨Int.emod_nonneg _ (by omega), Int.emod_lt_of_pos _ h⟩
theorem flat1 (t : List UInt8) : [t].flatten = t := by simp
theorem take_drop_part {α : Type} (t : List α) {a b : Nat} (h : a ≤ b) : t.take a ++ (t.take b).drop a = t.take b := by
  have e : t.take a = (t.take b).take a := by rw [List.take_take, Nat.min_eq_left h]
  rw [e, List.take_append_drop]
theorem openS_seal (t : List UInt8) : openS (sealS t) = (t, true) := by
  have hl : (sealS t).length = t.length + 4 := by rw [sealS, List.length_append, laidS_len]
  have e : (((sealS t).length : Int) - 4).toNat = t.length := by omega
  have e1 : (sealS t).take t.length = t := by rw [sealS, List.take_left]
  have e2 : (sealS t).drop t.length = laidS (crcS t) := by rw [sealS, List.drop_left]
  unfold openS
  rw [e, e1, e2, if_pos ⟨by omega, rfl⟩]
theorem seal_good (x : List UInt8) : [sealS x].all (fun x => (openS x).2) = true := by
  simp [openS_seal]
section ops
variable {P : Program} {ρ : Operand → Value} {E w : World} {ss : List (List Hp)} {K : Value → World → Prop} {dst : Option Tmp} {T : TypeId} {pos : String} {after : Array Edge} {g : Option (Nat × Bool)}
theorem o_compl {t u : TypeId} {x : Operand} {a : BitVec 32} (ht : P.underlying t = some (.int .u32)) (hx : ρ x = .int .u32 (a.toNat : Int)) (h : K (.int .u32 ((~~~ a).toNat : Int)) w) : OK P ⟨dst, .unOp .xor t x, u, pos, after, g⟩ ρ w K := by
  refine OK.val (run_v (v := .int .u32 ((~~~ a).toNat : Int)) ?_) h
  rw [hx]
  simp only [Op.unary, Op.intBits]
  rw [if_neg (show ¬ (IntKind.signed .u32 = true) by decide)]
  simp only [Sem.run_pure]
  have e : IntKind.max .u32 = ((4294967295#32).toNat : Int) := by decide
  rw [e]
  have := xor32 (4294967295#32) a
  rw [show (4294967295#32 ^^^ a) = ~~~ a from by
    apply BitVec.eq_of_getLsbD_eq
    intro i hi
    have : ∀ j, j < 32 → (4294967295#32).getLsbD j = true := by decide
    rw [BitVec.getLsbD_xor, this i hi, BitVec.getLsbD_not, decide_eq_true hi]; cases a.getLsbD i <;> rfl] at this
  exact congrArg (fun n => Result.ok (Value.int .u32 n) w) this
theorem o_idxArr {x y : Operand} {t e : TypeId} {n b off i by_ : Nat} {k : IntKind} {z : Value} (ht : P.underlying t = some (.array n e)) (hi : TI P e z 1 by_) (hx : ρ x = .pointer (some ⟨b, off, none⟩)) (hy : ρ y = .int k (i : Int)) (h : i < n)
    (hK : K (.pointer (some ⟨b, off + i, none⟩)) w) : OK P ⟨dst, .indexAddr t x y, T, pos, after, g⟩ ρ w K := by
  refine OK.val (run_v (v := .pointer (some ⟨b, off + i, none⟩)) ?_) hK
  rw [hx, hy]
  simp [Instr.indexAt, asIntOf, run_underlying ht, h, hi.size, add_lit, Instr.sureAddr]
end ops
end Go.Q
