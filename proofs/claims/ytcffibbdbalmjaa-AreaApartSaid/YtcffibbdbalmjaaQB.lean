/-
  Single operations: numbers, texts, blocks, rows.
-/
import Derived.Test.YtcffibbdbalmjaaQA
import Derived.Laws.Slices
import Derived.Laws.Append
import Derived.Laws.Rows
import Derived.Laws.CopyRow
import Derived.Laws.AppendOwn
import Derived.Laws.MakeOwn
import Derived.Laws.BytesString
import Derived.Laws.Pointers
import Derived.Laws.Concat
import Derived.RowKit3
set_option linter.unusedVariables false
set_option linter.unusedSimpArgs false
namespace Go.Q

section ops
variable {P : Program} {ρ : Operand → Value} {w : World} {K : Value → World → Prop} {dst : Option Tmp} {T : TypeId} {pos : String} {after : Array Edge} {g : Option (Nat × Bool)}

theorem OK.val {o : Oper} {v : Value} {w' : World} (hr : (execOp ρ o).run P w = .ok (.value v) w') (h : K v w') : OK P o ρ w K := by
  unfold OK; rw [hr]; exact h
theorem OK.skip {o : Oper} {w' : World} (hr : (execOp ρ o).run P w = .ok .skip w') (h : K undef w') : OK P o ρ w K := by
  unfold OK; rw [hr]; exact h
theorem run_v {s : Sem Value} {v : Value} {w' : World} (h : s.run P w = .ok v w') : (do pure (Next.value (← s)) : Sem Next).run P w = .ok (.value v) w' := by
  rw [Sem.run_bind, h]; rfl
theorem run_u {s : Sem Unit} {w' : World} (h : s.run P w = .ok () w') : (do s; pure Next.skip : Sem Next).run P w = .ok .skip w' := by
  rw [Sem.run_bind, h]; rfl

/-- whole numbers -/
theorem o_add {t u : TypeId} {x y : Operand} {k : IntKind} {a b c : Int} (hx : ρ x = .int k a) (hy : ρ y = .int k b) (hc : k.wrap (a + b) = c) (h : K (.int k c) w) :
    OK P ⟨dst, .binOp .add t x y u, T, pos, after, g⟩ ρ w K := o_bin hx hy (by simp [binOp, Op.intArith, hc]) h
theorem o_sub {t u : TypeId} {x y : Operand} {k : IntKind} {a b c : Int} (hx : ρ x = .int k a) (hy : ρ y = .int k b) (hc : k.wrap (a - b) = c) (h : K (.int k c) w) :
    OK P ⟨dst, .binOp .sub t x y u, T, pos, after, g⟩ ρ w K := o_bin hx hy (by simp [binOp, Op.intArith, hc]) h
theorem o_mul {t u : TypeId} {x y : Operand} {k : IntKind} {a b c : Int} (hx : ρ x = .int k a) (hy : ρ y = .int k b) (hc : k.wrap (a * b) = c) (h : K (.int k c) w) :
    OK P ⟨dst, .binOp .mul t x y u, T, pos, after, g⟩ ρ w K := o_bin hx hy (by simp [binOp, Op.intArith, hc]) h
theorem o_quo {t u : TypeId} {x y : Operand} {k : IntKind} {a b c : Int} (hx : ρ x = .int k a) (hy : ρ y = .int k b) (h0 : b ≠ 0) (hc : k.wrap (a.tdiv b) = c) (h : K (.int k c) w) :
    OK P ⟨dst, .binOp .quo t x y u, T, pos, after, g⟩ ρ w K := o_bin hx hy (by simp [binOp, Op.intDiv, h0, hc]) h
theorem o_rem {t u : TypeId} {x y : Operand} {k : IntKind} {a b c : Int} (hx : ρ x = .int k a) (hy : ρ y = .int k b) (h0 : b ≠ 0) (hc : a.tmod b = c) (h : K (.int k c) w) :
    OK P ⟨dst, .binOp .rem t x y u, T, pos, after, g⟩ ρ w K := o_bin hx hy (by simp [binOp, Op.intDiv, h0, hc]) h
theorem o_and {t u : TypeId} {x y : Operand} {k : IntKind} {a b c : Int} (hx : ρ x = .int k a) (hy : ρ y = .int k b)
    (hc : k.wrap ((BitVec.ofInt k.bits a &&& BitVec.ofInt k.bits b).toNat : Int) = c) (h : K (.int k c) w) :
    OK P ⟨dst, .binOp .and t x y u, T, pos, after, g⟩ ρ w K := o_bin hx hy (by simp only [binOp, Op.intBits]; rw [if_neg (by simp)]; simp only [Sem.run_pure]; rw [hc]) h
theorem o_or {t u : TypeId} {x y : Operand} {k : IntKind} {a b c : Int} (hx : ρ x = .int k a) (hy : ρ y = .int k b)
    (hc : k.wrap ((BitVec.ofInt k.bits a ||| BitVec.ofInt k.bits b).toNat : Int) = c) (h : K (.int k c) w) :
    OK P ⟨dst, .binOp .or t x y u, T, pos, after, g⟩ ρ w K := o_bin hx hy (by simp only [binOp, Op.intBits]; rw [if_neg (by simp)]; simp only [Sem.run_pure]; rw [hc]) h
theorem o_xor {t u : TypeId} {x y : Operand} {k : IntKind} {a b c : Int} (hx : ρ x = .int k a) (hy : ρ y = .int k b)
    (hc : k.wrap ((BitVec.ofInt k.bits a ^^^ BitVec.ofInt k.bits b).toNat : Int) = c) (h : K (.int k c) w) :
    OK P ⟨dst, .binOp .xor t x y u, T, pos, after, g⟩ ρ w K := o_bin hx hy (by simp only [binOp, Op.intBits]; rw [if_neg (by simp)]; simp only [Sem.run_pure]; rw [hc]) h

theorem run_eqGuard_shift {op : BinOp} {t : TypeId} {x y : Operand} {u v : Value} (h : op = .shl ∨ op = .shr ∨ op = .add ∨ op = .lss ∨ op = .leq ∨ op = .gtr ∨ op = .geq) : eqGuard op t x y u v = .pure () := by
  rcases h with rfl | rfl | rfl | rfl | rfl | rfl | rfl <;> rfl
theorem o_shr {t u : TypeId} {x y : Operand} {k yk : IntKind} {a b c : Int} (hx : ρ x = .int k a) (hy : ρ y = .int yk b) (h0 : 0 ≤ b)
    (hc : a.fdiv (2 ^ (min b.toNat k.bits)) = c) (h : K (.int k c) w) : OK P ⟨dst, .binOp .shr t x y u, T, pos, after, g⟩ ρ w K := by
  refine OK.val (run_v ?_) h
  simp only [hx, hy, run_eqGuard_shift (op := .shr) (by simp), binOp, Op.shift]
  rw [if_neg (by omega)]
  simp [hc]
theorem o_shl {t u : TypeId} {x y : Operand} {k yk : IntKind} {a b c : Int} (hx : ρ x = .int k a) (hy : ρ y = .int yk b) (h0 : 0 ≤ b)
    (hc : k.wrap (a * 2 ^ (min b.toNat k.bits)) = c) (h : K (.int k c) w) : OK P ⟨dst, .binOp .shl t x y u, T, pos, after, g⟩ ρ w K := by
  refine OK.val (run_v ?_) h
  simp only [hx, hy, run_eqGuard_shift (op := .shl) (by simp), binOp, Op.shift]
  rw [if_neg (by omega)]
  simp [hc]

theorem o_lss {t u : TypeId} {x y : Operand} {k : IntKind} {a b : Int} (hx : ρ x = .int k a) (hy : ρ y = .int k b) (h : K (.bool (decide (a < b))) w) :
    OK P ⟨dst, .binOp .lss t x y u, T, pos, after, g⟩ ρ w K := o_bin hx hy (by simp [binOp, Op.intCmp]) h
theorem o_leq {t u : TypeId} {x y : Operand} {k : IntKind} {a b : Int} (hx : ρ x = .int k a) (hy : ρ y = .int k b) (h : K (.bool (decide (a ≤ b))) w) :
    OK P ⟨dst, .binOp .leq t x y u, T, pos, after, g⟩ ρ w K := o_bin hx hy (by simp [binOp, Op.intCmp]) h
theorem o_gtr {t u : TypeId} {x y : Operand} {k : IntKind} {a b : Int} (hx : ρ x = .int k a) (hy : ρ y = .int k b) (h : K (.bool (decide (b < a))) w) :
    OK P ⟨dst, .binOp .gtr t x y u, T, pos, after, g⟩ ρ w K := o_bin hx hy (by simp [binOp, Op.intCmp]) h
theorem o_geq {t u : TypeId} {x y : Operand} {k : IntKind} {a b : Int} (hx : ρ x = .int k a) (hy : ρ y = .int k b) (h : K (.bool (decide (b ≤ a))) w) :
    OK P ⟨dst, .binOp .geq t x y u, T, pos, after, g⟩ ρ w K := o_bin hx hy (by simp [binOp, Op.intCmp]) h
theorem o_eql {t u : TypeId} {x y : Operand} {k : IntKind} {a b : Int} (hx : ρ x = .int k a) (hy : ρ y = .int k b) (h : K (.bool (decide (a = b))) w) :
    OK P ⟨dst, .binOp .eql t x y u, T, pos, after, g⟩ ρ w K := o_bin hx hy (by
      have e : (a == b) = decide (a = b) := rfl
      simp only [binOp, Op.intCmp]; rw [if_neg (by simp)]; simp [e]) h
theorem o_neq {t u : TypeId} {x y : Operand} {k : IntKind} {a b : Int} (hx : ρ x = .int k a) (hy : ρ y = .int k b) (h : K (.bool (decide (a ≠ b))) w) :
    OK P ⟨dst, .binOp .neq t x y u, T, pos, after, g⟩ ρ w K := o_bin hx hy (by
      have e : (a != b) = decide (a ≠ b) := by by_cases h : a = b <;> simp [h]
      simp only [binOp, Op.intCmp]; rw [if_neg (by simp)]; simp [e]) h

/-- '==' and '!=' beside whole numbers -/
theorem run_equal {t : TypeId} {x y : Value} {b : Bool} (h : (Op.equalIn (9999 + 1) t x y).run P w = .ok b w) : (Op.equal t x y).run P w = .ok b w := h
theorem o_eqx {t u : TypeId} {x y : Operand} {p q : Value} {b : Bool} (hx : ρ x = p) (hy : ρ y = q) (hg : (eqGuard .eql t x y p q).run P w = .ok () w)
    (hb : binOp .eql t p q = (do pure (.bool (← Op.equal t p q)))) (he : (Op.equalIn (9999 + 1) t p q).run P w = .ok b w) (h : K (.bool b) w) :
    OK P ⟨dst, .binOp .eql t x y u, T, pos, after, g⟩ ρ w K := by
  subst hx hy
  refine OK.val (run_v ?_) h
  rw [Sem.run_bind, hg, Result.andThen_ok, hb, Sem.run_bind, run_equal he]; rfl
theorem o_nex {t u : TypeId} {x y : Operand} {p q : Value} {b : Bool} (hx : ρ x = p) (hy : ρ y = q) (hg : (eqGuard .neq t x y p q).run P w = .ok () w)
    (hb : binOp .neq t p q = (do pure (.bool (!(← Op.equal t p q))))) (he : (Op.equalIn (9999 + 1) t p q).run P w = .ok b w) (h : K (.bool (!b)) w) :
    OK P ⟨dst, .binOp .neq t x y u, T, pos, after, g⟩ ρ w K := by
  subst hx hy
  refine OK.val (run_v ?_) h
  rw [Sem.run_bind, hg, Result.andThen_ok, hb, Sem.run_bind, run_equal he]; rfl

theorem q_bool {t : TypeId} {a b : Bool} (ht : P.underlying t = some .bool) (d : Nat) : (Op.equalIn (d + 1) t (.bool a) (.bool b)).run P w = .ok (a == b) w := by
  simp [Op.equalIn, run_underlying ht]
theorem q_pnil {t e : TypeId} {p : Option Addr} (ht : P.underlying t = some (.pointer e)) (d : Nat) : (Op.equalIn (d + 1) t (.pointer p) (.pointer none)).run P w = .ok p.isNone w := by
  cases p <;> simp [Op.equalIn, run_underlying ht]
theorem q_snil {t e : TypeId} {p : Option Addr} {n c l0 c0 : Nat} (ht : P.underlying t = some (.slice e)) (d : Nat) :
    (Op.equalIn (d + 1) t (.slice p n c) (.slice none l0 c0)).run P w = .ok p.isNone w := by
  cases p <;> simp [Op.equalIn, run_underlying ht]
theorem q_mnil {t k e : TypeId} {p : Option Nat} (ht : P.underlying t = some (.map k e)) (d : Nat) :
    (Op.equalIn (d + 1) t (.map p) (.map none)).run P w = .ok p.isNone w := by
  cases p <;> simp [Op.equalIn, run_underlying ht]
theorem o_eqlb {t u : TypeId} {x y : Operand} {a b : Bool} (ht : P.underlying t = some .bool) (hx : ρ x = .bool a) (hy : ρ y = .bool b) (h : K (.bool (a == b)) w) :
    OK P ⟨dst, .binOp .eql t x y u, T, pos, after, g⟩ ρ w K := o_eqx hx hy rfl rfl (q_bool ht 9999) h
theorem o_neqb {t u : TypeId} {x y : Operand} {a b : Bool} (ht : P.underlying t = some .bool) (hx : ρ x = .bool a) (hy : ρ y = .bool b) (h : K (.bool (!(a == b))) w) :
    OK P ⟨dst, .binOp .neq t x y u, T, pos, after, g⟩ ρ w K := o_nex hx hy rfl rfl (q_bool ht 9999) h
theorem o_pnil {t u e : TypeId} {x y : Operand} {p : Option Addr} (ht : P.underlying t = some (.pointer e)) (hx : ρ x = .pointer p) (hy : ρ y = .pointer none)
    (h : K (.bool p.isNone) w) : OK P ⟨dst, .binOp .eql t x y u, T, pos, after, g⟩ ρ w K := o_eqx hx hy rfl rfl (q_pnil ht 9999) h
theorem o_pnnil {t u e : TypeId} {x y : Operand} {p : Option Addr} (ht : P.underlying t = some (.pointer e)) (hx : ρ x = .pointer p) (hy : ρ y = .pointer none)
    (h : K (.bool (!p.isNone)) w) : OK P ⟨dst, .binOp .neq t x y u, T, pos, after, g⟩ ρ w K := o_nex hx hy rfl rfl (q_pnil ht 9999) h
theorem o_snil {t u e : TypeId} {x y : Operand} {p : Option Addr} {n c l0 c0 : Nat} (ht : P.underlying t = some (.slice e)) (hx : ρ x = .slice p n c) (hy : ρ y = .slice none l0 c0)
    (h : K (.bool p.isNone) w) : OK P ⟨dst, .binOp .eql t x y u, T, pos, after, g⟩ ρ w K := o_eqx hx hy rfl rfl (q_snil ht 9999) h

/-- texts, as lists of bytes -/
def S (l : List UInt8) : Value := .string ⟨l.toArray⟩
theorem S_of (s : ByteArray) : Value.string s = S s.data.toList := by simp [S]
theorem bytes_toList (l : List UInt8) : (⟨l.toArray⟩ : ByteArray).toList = l := by
  have key : ∀ (n i : Nat) (r : List UInt8), l.length - i = n → i ≤ l.length → ByteArray.toList.loop (⟨l.toArray⟩ : ByteArray) i r = r.reverse ++ l.drop i := by
    intro n
    induction n with
    | zero =>
      intro i r hn hi
      unfold ByteArray.toList.loop
      have hs : (⟨l.toArray⟩ : ByteArray).size = l.length := by simp [ByteArray.size]
      rw [if_neg (by rw [hs]; omega), List.drop_eq_nil_of_le (by omega)]; simp
    | succ n ih =>
      intro i r hn hi
      unfold ByteArray.toList.loop
      have hs : (⟨l.toArray⟩ : ByteArray).size = l.length := by simp [ByteArray.size]
      have hlt : i < l.length := by omega
      rw [if_pos (by rw [hs]; omega), ih (i + 1) _ (by omega) (by omega), List.drop_eq_getElem_cons hlt]
      simp [ByteArray.get!, hlt]
  have := key l.length 0 [] (by omega) (by omega)
  simpa [ByteArray.toList] using this

theorem bytes_size (l : List UInt8) : (⟨l.toArray⟩ : ByteArray).size = l.length := by simp [ByteArray.size]
theorem bytes_append (a b : List UInt8) : (⟨a.toArray⟩ : ByteArray) ++ ⟨b.toArray⟩ = ⟨(a ++ b).toArray⟩ := by
  apply ByteArray.ext; simp
theorem o_sadd {t u : TypeId} {x y : Operand} {a b : List UInt8} (hx : ρ x = S a) (hy : ρ y = S b) (hl : a.length + b.length ≤ 9223372036854775807) (h : K (S (a ++ b)) w) :
    OK P ⟨dst, .binOp .add t x y u, T, pos, after, g⟩ ρ w K := by
  refine OK.val (run_v ?_) h
  simp only [hx, hy, S]
  have := run_string_add_sum (P := P) (w := w) ⟨a.toArray⟩ ⟨b.toArray⟩ (by rw [bytes_size, bytes_size]; exact hl)
  rw [bytes_append] at this
  exact this
theorem o_scmp {op : BinOp} {t u : TypeId} {x y : Operand} {a b : List UInt8} {r : Bool} (hx : ρ x = S a) (hy : ρ y = S b)
    (hr : (binOp op t (S a) (S b)).run P w = .ok (.bool r) w) (hg : eqGuard op t x y (S a) (S b) = .pure ()) (h : K (.bool r) w) :
    OK P ⟨dst, .binOp op t x y u, T, pos, after, g⟩ ρ w K := by
  refine OK.val (run_v ?_) h
  rw [hx, hy, hg]
  exact hr
theorem o_seql {t u : TypeId} {x y : Operand} {a b : List UInt8} (hx : ρ x = S a) (hy : ρ y = S b) (h : K (.bool (decide (a = b))) w) :
    OK P ⟨dst, .binOp .eql t x y u, T, pos, after, g⟩ ρ w K := o_scmp hx hy (by
      show (Op.stringOp .eql _ _).run P w = _
      simp only [Op.stringOp, bytes_toList]
      have e : (a == b) = decide (a = b) := by by_cases h : a = b <;> simp [h]
      rw [e]; rfl) rfl h
theorem o_sneq {t u : TypeId} {x y : Operand} {a b : List UInt8} (hx : ρ x = S a) (hy : ρ y = S b) (h : K (.bool (decide (a ≠ b))) w) :
    OK P ⟨dst, .binOp .neq t x y u, T, pos, after, g⟩ ρ w K := o_scmp hx hy (by
      show (Op.stringOp .neq _ _).run P w = _
      simp only [Op.stringOp, bytes_toList]
      have e : (!(a == b)) = decide (a ≠ b) := by by_cases h : a = b <;> simp [h]
      rw [e]; rfl) rfl h
theorem o_slss {t u : TypeId} {x y : Operand} {a b : List UInt8} (hx : ρ x = S a) (hy : ρ y = S b) (h : K (.bool (Op.bytesLess a b)) w) :
    OK P ⟨dst, .binOp .lss t x y u, T, pos, after, g⟩ ρ w K := o_scmp hx hy (by
      show (Op.stringOp .lss _ _).run P w = _
      simp only [Op.stringOp, bytes_toList]; rfl) rfl h
theorem o_sleq {t u : TypeId} {x y : Operand} {a b : List UInt8} (hx : ρ x = S a) (hy : ρ y = S b) (h : K (.bool (Op.bytesLess a b || a == b)) w) :
    OK P ⟨dst, .binOp .leq t x y u, T, pos, after, g⟩ ρ w K := o_scmp hx hy (by
      show (Op.stringOp .leq _ _).run P w = _
      simp only [Op.stringOp, bytes_toList]; rfl) rfl h
/-- len -/
theorem o_call_builtin {b : Builtin} {args : Array Operand} {ts : Array TypeId} {v : Value} {w' : World}
    (hr : (builtin b ts T (args.map fun | .const _ => true | _ => false) (args.map ρ)).run P w = .ok (.value v) w') (h : K v w') :
    OK P ⟨dst, .call ⟨.builtin b, args, ts⟩, T, pos, after, g⟩ ρ w K := by
  refine OK.val ?_ h
  show (Sem.bind (Sem.bind (Sem.pure _) _) _).run P w = _
  exact hr
theorem o_slen {x : Operand} {t : TypeId} {a : List UInt8} (ht : P.underlying t = some .string) (hx : ρ x = S a) (h : K (.int .i64 a.length) w) :
    OK P ⟨dst, .call ⟨.builtin .len, #[x], #[t]⟩, T, pos, after, g⟩ ρ w K := by
  refine o_call_builtin ?_ h
  simp [hx, S, builtin, Builtin.len_, run_underlying ht, goInt, bytes_size]
theorem o_len {x : Operand} {t e : TypeId} {p : Option Addr} {n c : Nat} (ht : P.underlying t = some (.slice e)) (hx : ρ x = .slice p n c) (h : K (.int .i64 n) w) :
    OK P ⟨dst, .call ⟨.builtin .len, #[x], #[t]⟩, T, pos, after, g⟩ ρ w K := by
  refine o_call_builtin ?_ h
  simp [hx, builtin, Builtin.len_, run_underlying ht, goInt]
theorem o_cap {x : Operand} {t e : TypeId} {p : Option Addr} {n c : Nat} (ht : P.underlying t = some (.slice e)) (hx : ρ x = .slice p n c) (h : K (.int .i64 c) w) :
    OK P ⟨dst, .call ⟨.builtin .cap, #[x], #[t]⟩, T, pos, after, g⟩ ρ w K := by
  refine o_call_builtin ?_ h
  simp [hx, builtin, Builtin.cap_, run_underlying ht, goInt]
theorem o_max {x y : Operand} {t u : TypeId} {k k' : IntKind} {a b : Int} (hx : ρ x = .int k a) (hy : ρ y = .int k' b) (h : K (.int k (max a b)) w) :
    OK P ⟨dst, .call ⟨.builtin .max, #[x, y], #[t, u]⟩, T, pos, after, g⟩ ρ w K := by
  refine o_call_builtin ?_ h
  have e : (if b > a then b else a) = max a b := by split <;> omega
  simp [hx, hy, builtin, Builtin.max_, Builtin.max2, e]
theorem o_min {x y : Operand} {t u : TypeId} {k k' : IntKind} {a b : Int} (hx : ρ x = .int k a) (hy : ρ y = .int k' b) (h : K (.int k (min a b)) w) :
    OK P ⟨dst, .call ⟨.builtin .min, #[x, y], #[t, u]⟩, T, pos, after, g⟩ ρ w K := by
  refine o_call_builtin ?_ h
  have e : (if b < a then b else a) = min a b := by split <;> omega
  simp [hx, hy, builtin, Builtin.min_, Builtin.min2, e]
/-- a number of another kind -/
theorem o_conv {s t : TypeId} {x : Operand} {k k' : IntKind} {a c : Int} {ds : TypeDesc} (hs : P.underlying s = some ds) (ht : P.underlying t = some (.int k)) (hx : ρ x = .int k' a)
    (hc : k.wrap a = c) (h : K (.int k c) w) : OK P ⟨dst, .convert s t x, T, pos, after, g⟩ ρ w K := by
  refine OK.val (run_v ?_) h
  rw [hx]
  rw [← hc]
  cases ds <;> simp [convert, run_underlying hs, run_underlying ht, Conv.intToInt]
/-- s[i] of a text -/
theorem o_sidx {t : TypeId} {x y : Operand} {a : List UInt8} {k : IntKind} {i : Int} {b : UInt8} (ht : P.underlying t = some .string) (hx : ρ x = S a) (hy : ρ y = .int k i)
    (h0 : 0 ≤ i) (hb : a[i.toNat]? = some b) (h : K (.int .u8 b.toNat) w) : OK P ⟨dst, .index t x y, T, pos, after, g⟩ ρ w K := by
  refine OK.val (run_v ?_) h
  have e : (⟨a.toArray⟩ : ByteArray)[i.toNat]? = some b := by
    obtain ⟨hlt, hv⟩ := List.getElem?_eq_some_iff.1 hb
    have hs : i.toNat < (⟨a.toArray⟩ : ByteArray).size := by rw [bytes_size]; exact hlt
    rw [getElem?_pos (⟨a.toArray⟩ : ByteArray) i.toNat hs, ByteArray.getElem_eq_getElem_data]
    simpa using hv
  simp [hx, hy, S, Instr.index, asIntOf, run_underlying ht, h0, e]
end ops
end Go.Q
