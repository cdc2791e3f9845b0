/-
  The sum of layer 2: one bit, four bits by the table, a byte; a burst turns it.
-/
set_option linter.unusedVariables false
set_option linter.unusedSimpArgs false
namespace Go.Q
/-- one bit falls out -/
def cb (r : BitVec 32) : BitVec 32 := if r.getLsbD 0 then (r >>> 1) ^^^ 0xedb88320#32 else r >>> 1
def cbs : Nat → BitVec 32 → BitVec 32
  | 0, r => r
  | n + 1, r => cbs n (cb r)
def b32 (b : UInt8) : BitVec 32 := BitVec.ofNat 32 b.toNat
/-- one byte -/
def cby (r : BitVec 32) (b : UInt8) : BitVec 32 := cbs 8 (r ^^^ b32 b)
def crcF (r : BitVec 32) (l : List UInt8) : BitVec 32 := l.foldl cby r
def crcS (l : List UInt8) : BitVec 32 := ~~~ (crcF (0xffffffff#32) l)
theorem cb_xor (a b : BitVec 32) : cb (a ^^^ b) = cb a ^^^ cb b := by
  unfold cb
  rw [BitVec.getLsbD_xor, BitVec.ushiftRight_xor_distrib]
  generalize a >>> 1 = x
  generalize b >>> 1 = y
  generalize (0xedb88320#32 : BitVec 32) = c
  have e1 : x ^^^ (y ^^^ c) = x ^^^ y ^^^ c := (BitVec.xor_assoc x y c).symm
  have e2 : x ^^^ c ^^^ y = x ^^^ y ^^^ c := by rw [BitVec.xor_assoc, BitVec.xor_comm c y, e1]
  have e3 : x ^^^ c ^^^ (y ^^^ c) = x ^^^ y := by rw [← BitVec.xor_assoc, e2, BitVec.xor_assoc, BitVec.xor_self, BitVec.xor_zero]
  cases a.getLsbD 0 <;> cases b.getLsbD 0 <;> simp [e1, e2, e3]
theorem cb_zero : cb 0#32 = 0#32 := by decide
theorem cb_even {a : BitVec 32} (h : a.getLsbD 0 = false) : cb a = a >>> 1 := by unfold cb; rw [h]; rfl
theorem cb_inj0 {a : BitVec 32} (h : cb a = 0#32) : a = 0#32 := by
  unfold cb at h
  split at h
  · have := congrArg (fun x : BitVec 32 => x.getLsbD 31) h
    simp at this
  · rename_i h0
    apply BitVec.eq_of_getLsbD_eq
    intro i hi
    cases i with
    | zero => simpa using h0
    | succ i =>
      have := congrArg (fun x : BitVec 32 => x.getLsbD i) h
      simp at this
      rw [Nat.add_comm] at this
      simpa using this
theorem cbs_xor : ∀ (n : Nat) (a b : BitVec 32), cbs n (a ^^^ b) = cbs n a ^^^ cbs n b
  | 0, _, _ => rfl
  | n + 1, a, b => by rw [cbs, cb_xor, cbs_xor n]; rfl
theorem cbs_inj0 : ∀ (n : Nat) {a : BitVec 32}, cbs n a = 0#32 → a = 0#32
  | 0, _, h => h
  | n + 1, _, h => cb_inj0 (cbs_inj0 n h)
theorem cbs_zero : ∀ n, cbs n 0#32 = 0#32
  | 0 => rfl
  | n + 1 => by rw [cbs, cb_zero, cbs_zero n]
theorem cbs_add (a b : Nat) : ∀ r, cbs (a + b) r = cbs b (cbs a r) := by
  induction a with
  | zero => intro r; rw [Nat.zero_add]; rfl
  | succ a ih => intro r; rw [Nat.succ_add]; exact ih _
/-- bits above n: they only fall down -/
theorem cbs_high : ∀ (n : Nat) (a : BitVec 32), (∀ i, i < n → a.getLsbD i = false) → cbs n a = a >>> n
  | 0, a, _ => by simp [cbs]
  | n + 1, a, h => by
    rw [cbs, cb_even (h 0 (by omega)), cbs_high n _ (fun i hi => by
      rw [BitVec.getLsbD_ushiftRight, Nat.add_comm]; exact h (i + 1) (by omega))]
    rw [← BitVec.shiftRight_add, Nat.add_comm]
def nib (i : Nat) : BitVec 32 := cbs 4 (BitVec.ofNat 32 i)
theorem split4 (r : BitVec 32) : r = (r &&& ~~~ 15#32) ^^^ (r &&& 15#32) := by
  apply BitVec.eq_of_getLsbD_eq
  intro i hi
  simp only [BitVec.getLsbD_xor, BitVec.getLsbD_and, BitVec.getLsbD_not]
  cases r.getLsbD i <;> simp [hi]
theorem cbs4 (r : BitVec 32) : cbs 4 r = (r >>> 4) ^^^ nib (r &&& 15#32).toNat := by
  have hl : ∀ i, i < 4 → (r &&& ~~~ 15#32).getLsbD i = false := fun i hi => by
    have : (~~~ 15#32).getLsbD i = false := by
      rcases i with _ | _ | _ | _ | i <;> first | decide | omega
    rw [BitVec.getLsbD_and, this, Bool.and_false]
  have e1 : (r &&& ~~~ 15#32) >>> 4 = r >>> 4 := by
    apply BitVec.eq_of_getLsbD_eq
    intro i hi
    rw [BitVec.getLsbD_ushiftRight, BitVec.getLsbD_ushiftRight, BitVec.getLsbD_and]
    by_cases hb : 4 + i < 32
    · have : ∀ j, j < 28 → (~~~ 15#32).getLsbD (4 + j) = true := by decide
      rw [this i (by omega), Bool.and_true]
    · rw [BitVec.getLsbD_of_ge r _ (by omega)]; rfl
  conv => lhs; rw [split4 r]
  rw [cbs_xor, cbs_high 4 _ hl, e1]
  unfold nib
  rw [BitVec.ofNat_toNat, BitVec.setWidth_eq]
/-- a byte, bit by bit: what is left of it is laid over the state -/
theorem step_bit (r x : BitVec 32) : cb (r ^^^ (x &&& 1#32)) ^^^ (x >>> 1) = cb (r ^^^ x) := by
  have e : x = (x &&& 1#32) ^^^ (x &&& ~~~ 1#32) := by
    apply BitVec.eq_of_getLsbD_eq
    intro i hi
    simp only [BitVec.getLsbD_xor, BitVec.getLsbD_and, BitVec.getLsbD_not]
    cases x.getLsbD i <;> simp [hi]
  have h0 : (x &&& ~~~ 1#32).getLsbD 0 = false := by
    rw [BitVec.getLsbD_and]; simp
  have h1 : (x &&& ~~~ 1#32) >>> 1 = x >>> 1 := by
    apply BitVec.eq_of_getLsbD_eq
    intro i hi
    rw [BitVec.getLsbD_ushiftRight, BitVec.getLsbD_ushiftRight, BitVec.getLsbD_and]
    by_cases hb : 1 + i < 32
    · have : ∀ j, j < 31 → (~~~ 1#32).getLsbD (1 + j) = true := by decide
      rw [this i (by omega), Bool.and_true]
    · rw [BitVec.getLsbD_of_ge x _ (by omega)]; rfl
  conv => rhs; rw [e, ← BitVec.xor_assoc, cb_xor, cb_even h0, h1]
theorem crcF_append (r : BitVec 32) (a b : List UInt8) : crcF r (a ++ b) = crcF (crcF r a) b := List.foldl_append
end Go.Q
