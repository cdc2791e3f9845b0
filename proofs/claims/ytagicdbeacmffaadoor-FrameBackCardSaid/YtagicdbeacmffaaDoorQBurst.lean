/-
  A burst of 32 bits turns the sum: bits fed one by one.
-/
import Derived.Test.YtagicdbeacmffaaDoorQU
import Derived.Test.YtagicdbeacmffaaDoorQW
set_option linter.unusedVariables false
set_option linter.unusedSimpArgs false
namespace Go.Q
def bit1 (x : Bool) : BitVec 32 := if x then 1#32 else 0#32
def feed (r : BitVec 32) : List Bool → BitVec 32
  | [] => r
  | x :: X => feed (cb (r ^^^ bit1 x)) X
def word : List Bool → BitVec 32
  | [] => 0#32
  | x :: X => bit1 x ^^^ (word X <<< 1)
theorem feed_append : ∀ (A B : List Bool) (r : BitVec 32), feed r (A ++ B) = feed (feed r A) B
  | [], _, _ => rfl
  | x :: A, B, r => by rw [List.cons_append, feed, feed, feed_append A B]
theorem bit1_get (x : Bool) (i : Nat) : (bit1 x).getLsbD i = (decide (i = 0) && x) := by
  cases x
  · simp [bit1]
  · show (1#32).getLsbD i = _
    rw [BitVec.getLsbD_one]; simp
theorem word_get : ∀ (X : List Bool) (i : Nat), i < 32 → (word X).getLsbD i = X.getD i false
  | [], i, _ => by simp [word]
  | x :: X, 0, _ => by rw [word, BitVec.getLsbD_xor, bit1_get, BitVec.getLsbD_shiftLeft]; simp
  | x :: X, i + 1, h => by
    rw [word, BitVec.getLsbD_xor, bit1_get, BitVec.getLsbD_shiftLeft]
    have := word_get X i (by omega)
    simp [this]
    omega
theorem shl_shr {x : BitVec 32} (h : x.getLsbD 31 = false) : (x <<< 1) >>> 1 = x := by
  apply BitVec.eq_of_getLsbD_eq
  intro i hi
  rw [BitVec.getLsbD_ushiftRight, BitVec.getLsbD_shiftLeft]
  by_cases g : i = 31
  · subst g; rw [h]; simp
  · have e : 1 + i - 1 = i := by omega
    rw [e, decide_eq_true (show 1 + i < 32 by omega)]; simp
theorem cb_shl {x : BitVec 32} (h : x.getLsbD 31 = false) : cb (x <<< 1) = x := by
  rw [cb_even (by rw [BitVec.getLsbD_shiftLeft]; simp), shl_shr h]
theorem feed_word : ∀ (X : List Bool) (r : BitVec 32), X.length ≤ 32 → feed r X = cbs X.length (r ^^^ word X)
  | [], r, _ => by show r = r ^^^ 0#32; rw [BitVec.xor_zero]
  | x :: X, r, h => by
    have hl : X.length ≤ 31 := by simpa using h
    have h0 : (word X).getLsbD 31 = false := by
      rw [word_get X 31 (by omega), List.getD_eq_getElem?_getD, List.getElem?_eq_none hl]; rfl
    rw [feed, feed_word X _ (by omega), List.length_cons, cbs, word, ← BitVec.xor_assoc, cb_xor (r ^^^ bit1 x), cb_shl h0]
theorem cbs_inj {n : Nat} {a b : BitVec 32} (h : cbs n a = cbs n b) : a = b := by
  have h1 : cbs n (a ^^^ b) = 0#32 := by rw [cbs_xor, h, BitVec.xor_self]
  have h2 := cbs_inj0 n h1
  have h3 : a ^^^ b ^^^ b = b := by rw [h2, BitVec.zero_xor]
  rw [BitVec.xor_assoc, BitVec.xor_self, BitVec.xor_zero] at h3
  exact h3
theorem xor_can {a b c : BitVec 32} (h : a ^^^ b = a ^^^ c) : b = c := by
  have := congrArg (fun x => a ^^^ x) h
  simpa [← BitVec.xor_assoc, BitVec.xor_self] using this
theorem word_inj {X Y : List Bool} (hl : X.length = Y.length) (h32 : X.length ≤ 32) (h : word X = word Y) : X = Y := by
  refine List.ext_getElem hl fun i h1 h2 => ?_
  have a := word_get X i (by omega)
  have b := word_get Y i (by omega)
  rw [h, b] at a
  simpa [List.getD_eq_getElem?_getD, h1, h2] using a.symm
theorem feed_inj : ∀ (Q : List Bool) {r r' : BitVec 32}, feed r Q = feed r' Q → r = r'
  | [], _, _, h => h
  | x :: Q, r, r', h => by
    have h1 := feed_inj Q h
    have h2 : r ^^^ bit1 x = r' ^^^ bit1 x := cbs_inj (n := 1) h1
    rw [BitVec.xor_comm r, BitVec.xor_comm r'] at h2
    exact xor_can h2
theorem burst {A B : List Bool} {a : Nat} (hl : A.length = B.length) (hw : ∀ p, p < a ∨ a + 32 ≤ p → A[p]? = B[p]?) (r : BitVec 32) (h : feed r A = feed r B) : A = B := by
  have e1 : A.take a = B.take a := List.ext_getElem? fun i => by
    rw [List.getElem?_take, List.getElem?_take]
    split
    · exact hw i (.inl (by assumption))
    · rfl
  have e3 : A.drop (a + 32) = B.drop (a + 32) := List.ext_getElem? fun i => by
    rw [List.getElem?_drop, List.getElem?_drop]; exact hw _ (.inr (by omega))
  have sp : ∀ X : List Bool, X = X.take a ++ ((X.drop a).take 32 ++ X.drop (a + 32)) := fun X => by
    rw [← List.drop_drop, List.take_append_drop, List.take_append_drop]
  rw [sp A, sp B, e1, e3, feed_append, feed_append, feed_append, feed_append] at h
  have h2 := feed_inj _ h
  have lA : ((A.drop a).take 32).length ≤ 32 := by rw [List.length_take]; omega
  have lB : ((B.drop a).take 32).length ≤ 32 := by rw [List.length_take]; omega
  have ll : ((A.drop a).take 32).length = ((B.drop a).take 32).length := by simp [hl]
  rw [feed_word _ _ lA, feed_word _ _ lB, ll] at h2
  have h3 := word_inj ll lA (xor_can (cbs_inj h2))
  rw [sp A, sp B, e1, e3, h3]
/-- the bits of a byte, the lowest first; of bytes -/
def bits8 (b : UInt8) : List Bool := (List.range 8).map b.toNat.testBit
def bitsOf (s : List UInt8) : List Bool := s.flatMap bits8
theorem bits8_len (b : UInt8) : (bits8 b).length = 8 := rfl
theorem bits_len (s : List UInt8) : (bitsOf s).length = s.length * 8 := by
  induction s with
  | nil => rfl
  | cons b s ih => unfold bitsOf at *; rw [List.flatMap_cons, List.length_append, ih, bits8_len, List.length_cons]; omega
theorem bits8_get (b : UInt8) (i : Nat) : (bits8 b)[i]? = if i < 8 then some (b.toNat.testBit i) else none := by
  by_cases h : i < 8
  · rw [if_pos h]; unfold bits8; rw [List.getElem?_map, List.getElem?_range h]; rfl
  · rw [if_neg h]; exact List.getElem?_eq_none (by rw [bits8_len]; omega)
theorem bits_get : ∀ (s : List UInt8) (p : Nat), (bitsOf s)[p]? = (s[p / 8]?).map fun b => b.toNat.testBit (p % 8)
  | [], p => rfl
  | b :: s, p => by
    unfold bitsOf
    rw [List.flatMap_cons]
    by_cases h : p < 8
    · rw [List.getElem?_append_left (by rw [bits8_len]; exact h), bits8_get, if_pos h, Nat.div_eq_of_lt h, Nat.mod_eq_of_lt h]; rfl
    · rw [List.getElem?_append_right (by rw [bits8_len]; omega), bits8_len]
      have := bits_get s (p - 8)
      unfold bitsOf at this
      rw [this, show p / 8 = (p - 8) / 8 + 1 by omega, List.getElem?_cons_succ, show (p - 8) % 8 = p % 8 by omega]
theorem byte_ext {a b : UInt8} (h : ∀ i, i < 8 → a.toNat.testBit i = b.toNat.testBit i) : a = b := by
  apply UInt8.toNat_inj.1
  apply Nat.eq_of_testBit_eq
  intro i
  by_cases hi : i < 8
  · exact h i hi
  · have ha : a.toNat < 2 ^ i := Nat.lt_of_lt_of_le a.toNat_lt (Nat.pow_le_pow_right (by decide) (by omega))
    have hb : b.toNat < 2 ^ i := Nat.lt_of_lt_of_le b.toNat_lt (Nat.pow_le_pow_right (by decide) (by omega))
    rw [Nat.testBit_lt_two_pow ha, Nat.testBit_lt_two_pow hb]
theorem bits_inj {s t : List UInt8} (hl : s.length = t.length) (h : bitsOf s = bitsOf t) : s = t := by
  refine List.ext_getElem hl fun i h1 h2 => byte_ext fun j hj => ?_
  have a := bits_get s (i * 8 + j)
  have b := bits_get t (i * 8 + j)
  rw [h, b] at a
  rw [show (i * 8 + j) / 8 = i by omega, show (i * 8 + j) % 8 = j by omega, List.getElem?_eq_getElem h1, List.getElem?_eq_getElem h2] at a
  simpa using a.symm
theorem word_bits8 (b : UInt8) : word (bits8 b) = b32 b := by
  apply BitVec.eq_of_getLsbD_eq
  intro i hi
  rw [word_get _ i hi, List.getD_eq_getElem?_getD, bits8_get]
  unfold b32
  rw [BitVec.getLsbD_ofNat, decide_eq_true hi, Bool.true_and]
  split
  · rfl
  · have hb : b.toNat < 2 ^ i := Nat.lt_of_lt_of_le b.toNat_lt (Nat.pow_le_pow_right (by decide) (by omega))
    rw [Nat.testBit_lt_two_pow hb]; rfl
theorem crc_feed : ∀ (s : List UInt8) (r : BitVec 32), crcF r s = feed r (bitsOf s)
  | [], _ => rfl
  | b :: s, r => by
    have e : bitsOf (b :: s) = bits8 b ++ bitsOf s := by unfold bitsOf; rw [List.flatMap_cons]
    rw [e, feed_append, feed_word (bits8 b) _ (by rw [bits8_len]; omega), bits8_len, word_bits8, ← crc_feed s]
    rfl
/-- A burst turns the sum where it turns something. -/
theorem crc_burst {s t : List UInt8} {a : Nat} (hl : t.length = s.length) (hw : ∀ p, p < a ∨ a + 32 ≤ p → (bitsOf t)[p]? = (bitsOf s)[p]?) (r : BitVec 32) (h : crcF r t = crcF r s) : t = s := by
  rw [crc_feed, crc_feed] at h
  exact bits_inj hl (burst (by rw [bits_len, bits_len, hl]) hw r h)
theorem not_inj {a b : BitVec 32} (h : ~~~ a = ~~~ b) : a = b := by
  have := congrArg (fun x => ~~~ x) h
  simpa using this
theorem sum_burst {s t : List UInt8} {a : Nat} (hl : t.length = s.length) (hw : ∀ p, p < a ∨ a + 32 ≤ p → (bitsOf t)[p]? = (bitsOf s)[p]?) : decide (t = s) = decide (((crcS t).toNat : Int) = ((crcS s).toNat : Int)) := by
  by_cases h : t = s
  · subst h; simp
  · rw [decide_eq_false h]
    symm
    apply decide_eq_false
    intro g
    have g2 : crcS t = crcS s := BitVec.eq_of_toNat_eq (by omega)
    exact h (crc_burst hl hw _ (not_inj g2))
/-- four bytes that are a sum -/
theorem lo8_get (x : BitVec 32) (i : Nat) (h : i < 8) : (lo8 x).toNat.testBit i = x.getLsbD i := by
  unfold lo8
  rw [UInt8.toNat_ofNat', Nat.testBit_mod_two_pow, decide_eq_true h, Bool.true_and]; rfl
theorem bits_laid (x : BitVec 32) : bitsOf (laidS x) = (List.range 32).map x.getLsbD := by
  refine List.ext_getElem? fun p => ?_
  rw [bits_get]
  by_cases h : p < 32
  · rw [List.getElem?_map, List.getElem?_range h]
    have h4 : p / 8 < 4 := by omega
    have key : ∀ k, k < 4 → (laidS x)[k]? = some (lo8 (x >>> (8 * k))) := by
      intro k hk
      rcases k with _ | _ | _ | _ | k
      · simp [laidS]
      · rfl
      · rfl
      · rfl
      · omega
    rw [key _ h4, Option.map_some, Option.map_some, lo8_get _ _ (by omega), BitVec.getLsbD_ushiftRight, show 8 * (p / 8) + p % 8 = p by omega]
  · rw [List.getElem?_eq_none (by rw [laidS_len]; omega), List.getElem?_eq_none (by simp; omega)]; rfl
theorem word_laid (x : BitVec 32) : word (bitsOf (laidS x)) = x := by
  apply BitVec.eq_of_getLsbD_eq
  intro i hi
  rw [word_get _ i hi, bits_laid, List.getD_eq_getElem?_getD, List.getElem?_map, List.getElem?_range hi]; rfl
theorem crc_four {v : List UInt8} (h : v.length = 4) (r : BitVec 32) : crcF r v = cbs 32 (r ^^^ word (bitsOf v)) := by
  have hl : (bitsOf v).length = 32 := by rw [bits_len, h]
  rw [crc_feed, feed_word _ _ (by omega), hl]
theorem laid_word {v : List UInt8} (h : v.length = 4) (x : BitVec 32) : laidS x = v ↔ word (bitsOf v) = x := by
  constructor
  · intro e; rw [← e, word_laid]
  · intro e
    refine bits_inj (by rw [laidS_len, h]) ?_
    refine word_inj (by rw [bits_len, bits_len, laidS_len, h]) (by rw [bits_len, laidS_len]; omega) ?_
    rw [word_laid, e]
/-- what is left of a sealed text -/
theorem seal_state {u v : List UInt8} (h : v.length = 4) : laidS (crcS u) = v ↔ crcF (0xffffffff#32) (u ++ v) = cbs 32 (0xffffffff#32) := by
  rw [laid_word h, crcF_append, crc_four h]
  unfold crcS
  constructor
  · intro e
    rw [e]; congr 1
    generalize crcF (0xffffffff#32) u = r
    apply BitVec.eq_of_getLsbD_eq
    intro i hi
    have : ∀ j, j < 32 → (0xffffffff#32).getLsbD j = true := by decide
    rw [this i hi, BitVec.getLsbD_xor, BitVec.getLsbD_not, decide_eq_true hi]
    cases r.getLsbD i <;> rfl
  · intro e
    have e2 := cbs_inj e
    generalize crcF (0xffffffff#32) u = r at e2 ⊢
    apply BitVec.eq_of_getLsbD_eq
    intro i hi
    have e3 := congrArg (fun x : BitVec 32 => x.getLsbD i) e2
    have : ∀ j, j < 32 → (0xffffffff#32).getLsbD j = true := by decide
    simp only [BitVec.getLsbD_xor, this i hi] at e3
    rw [BitVec.getLsbD_not, decide_eq_true hi]
    revert e3
    cases r.getLsbD i <;> cases (word (bitsOf v)).getLsbD i <;> simp
theorem open_state {g : List UInt8} (h : 4 ≤ g.length) : (openS g).2 = true ↔ crcF (0xffffffff#32) g = cbs 32 (0xffffffff#32) := by
  have hv : (g.drop ((g.length : Int) - 4).toNat).length = 4 := by rw [List.length_drop]; omega
  have hs := seal_state (u := g.take ((g.length : Int) - 4).toNat) hv
  rw [List.take_append_drop] at hs
  rw [← hs]
  unfold openS
  split
  · rename_i h2; exact ⟨fun _ => h2.2, fun _ => rfl⟩
  · rename_i h2; exact ⟨fun e => (by cases e), fun e => absurd ⟨h, e⟩ h2⟩
theorem open_burst {f g : List UInt8} {a : Nat} (hf : (openS f).2 = true) (h4 : 4 ≤ f.length) (hl : g.length = f.length) (hw : ∀ p, p < a ∨ a + 32 ≤ p → (bitsOf g)[p]? = (bitsOf f)[p]?) : (openS g).2 = decide (g = f) := by
  by_cases h : g = f
  · subst h; rw [hf]; simp
  · rw [decide_eq_false h]
    cases e : (openS g).2 with
    | false => rfl
    | true =>
      have h1 := (open_state (by omega)).1 e
      rw [← (open_state h4).1 hf] at h1
      exact absurd (crc_burst hl hw _ h1) h
/-- one bit of a byte turned -/
def pow8 (n : Nat) : UInt8 := UInt8.ofNat (2 ^ n)
theorem shl8z {z : Int} (h0 : 0 ≤ z) (h : z < 8) : IntKind.wrap .u8 (1 * 2 ^ (min z.toNat (IntKind.bits .u8))) = ((pow8 z.toNat).toNat : Int) := by
  obtain ⟨n, rfl⟩ : ∃ n : Nat, z = n := ⟨z.toNat, by omega⟩
  exact shl8 n (by omega)
theorem turn_step {s lc : List UInt8} {a q : Nat} {c : UInt8} (hl : lc.length = s.length) (hw : ∀ p, p < a ∨ a + 32 ≤ p → (bitsOf lc)[p]? = (bitsOf s)[p]?) (hq : a ≤ q ∧ q < a + 32) (hc : lc[q / 8]? = some c) :
    (lc.set (q / 8) (c ^^^ pow8 (q % 8))).length = s.length ∧ ∀ p, p < a ∨ a + 32 ≤ p → (bitsOf (lc.set (q / 8) (c ^^^ pow8 (q % 8))))[p]? = (bitsOf s)[p]? := by
  refine ⟨by rw [List.length_set, hl], fun p hp => ?_⟩
  rw [← hw p hp, bits_get, bits_get]
  by_cases h : p / 8 = q / 8
  · have hlt := (List.getElem?_eq_some_iff.1 hc).1
    rw [h, List.getElem?_set_self hlt, hc, Option.map_some, Option.map_some]
    congr 1
    have hm : p % 8 ≠ q % 8 := by omega
    rw [UInt8.toNat_xor, Nat.testBit_xor]
    have : (pow8 (q % 8)).toNat.testBit (p % 8) = false := by
      unfold pow8
      have h2 : 2 ^ (q % 8) < 256 := Nat.lt_of_le_of_lt (Nat.pow_le_pow_right (by decide) (show q % 8 ≤ 7 by omega)) (by decide)
      rw [UInt8.toNat_ofNat', Nat.mod_eq_of_lt h2, Nat.testBit_two_pow]
      exact decide_eq_false (by omega)
    rw [this, Bool.xor_false]
  · rw [List.getElem?_set_ne (fun e => h e.symm)]
/-- the lists are alike but for a window of 32 bits -/
def Win (a : Nat) (t s : List UInt8) : Prop := t.length = s.length ∧ ∀ p, p < a ∨ a + 32 ≤ p → (bitsOf t)[p]? = (bitsOf s)[p]?
theorem Win.refl (a : Nat) (s : List UInt8) : Win a s s := ⟨rfl, fun _ _ => rfl⟩
theorem Win.step {a i : Nat} {t s : List UInt8} {c : UInt8} (h : Win a t s) (hi : i < 32) (hc : t[(((a : Int) + (i : Int)) / 8).toNat]? = some c) :
    Win a (t.set (((a : Int) + (i : Int)) / 8).toNat (c ^^^ pow8 (((a : Int) + (i : Int)) % 8).toNat)) s := by
  have e1 : (((a : Int) + (i : Int)) / 8).toNat = (a + i) / 8 := by omega
  have e2 : (((a : Int) + (i : Int)) % 8).toNat = (a + i) % 8 := by omega
  rw [e1] at hc ⊢
  rw [e2]
  exact turn_step h.1 h.2 (by omega) hc
end Go.Q
