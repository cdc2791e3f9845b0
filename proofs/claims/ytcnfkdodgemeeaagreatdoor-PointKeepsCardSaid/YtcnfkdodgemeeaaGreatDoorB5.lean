/-
  Parts of a walk: what functions of the program compute, each told by a theorem (QzEq, QPoint, Qzt1, Qzt2, Qzt4, Qzt7, Qzt3, Qzt3b, Qzt5, Qzt8, QzL7, QYD).
-/
import Derived.Test.YtcnfkdodgemeeaaGreatDoorB4
import Derived.OpenShut
set_option linter.unusedVariables false
set_option linter.unusedSimpArgs false
set_option linter.unnecessarySimpa false
namespace Go.Q
open Go.Proofs
set_option linter.unusedVariables false
set_option maxRecDepth 100000
def eqv27 (a0 : Int) (a1 : Int) (a2 : Int) (a3 : Int) (a4 : Int) (b0 : Int) (b1 : Int) (b2 : Int) (b3 : Int) (b4 : Int) : Bool := (decide (a0 = b0) && (decide (a1 = b1) && (decide (a2 = b2) && (decide (a3 = b3) && (decide (a4 = b4) && true)))))
theorem eqT27 (d : Nat) (w : World) (a0 : Int) (a1 : Int) (a2 : Int) (a3 : Int) (a4 : Int) (b0 : Int) (b1 : Int) (b2 : Int) (b3 : Int) (b4 : Int) : (Op.equalIn (d + 2) 27 (.agg #[(.int .i64 a0), (.int .i64 a1), (.int .i64 a2), (.int .i64 a3), (.int .i64 a4)]) (.agg #[(.int .i64 b0), (.int .i64 b1), (.int .i64 b2), (.int .i64 b3), (.int .i64 b4)])).run Tryz.prog w = .ok (eqv27 a0 a1 a2 a3 a4 b0 b1 b2 b3 b4) w := by
  rw [run_equalIn_struct w _ 27 _ _ (by kernel_rfl) (by kernel_rfl)]
  refine eqC_fields (m := [(3, 0, false), (3, 1, false), (3, 2, false), (3, 3, false), (3, 4, false)]) (by kernel_rfl) fun l hl => ?_
  obtain ⟨f0, l0, rfl, h0, hl⟩ := List.map_eq_cons_iff.1 hl
  refine eqC_cons (ft := 3) (fo := 0) (a := (.int .i64 a0)) (b := (.int .i64 b0)) h0 (part1 Tryz.underlying3 rfl (by kernel_rfl) w) (part1 Tryz.underlying3 rfl (by kernel_rfl) w) (eq_int Tryz.underlying3 (d + 0) _ _ _ w) ?_
  obtain ⟨f1, l1, rfl, h1, hl⟩ := List.map_eq_cons_iff.1 hl
  refine eqC_cons (ft := 3) (fo := 1) (a := (.int .i64 a1)) (b := (.int .i64 b1)) h1 (part1 Tryz.underlying3 rfl (by kernel_rfl) w) (part1 Tryz.underlying3 rfl (by kernel_rfl) w) (eq_int Tryz.underlying3 (d + 0) _ _ _ w) ?_
  obtain ⟨f2, l2, rfl, h2, hl⟩ := List.map_eq_cons_iff.1 hl
  refine eqC_cons (ft := 3) (fo := 2) (a := (.int .i64 a2)) (b := (.int .i64 b2)) h2 (part1 Tryz.underlying3 rfl (by kernel_rfl) w) (part1 Tryz.underlying3 rfl (by kernel_rfl) w) (eq_int Tryz.underlying3 (d + 0) _ _ _ w) ?_
  obtain ⟨f3, l3, rfl, h3, hl⟩ := List.map_eq_cons_iff.1 hl
  refine eqC_cons (ft := 3) (fo := 3) (a := (.int .i64 a3)) (b := (.int .i64 b3)) h3 (part1 Tryz.underlying3 rfl (by kernel_rfl) w) (part1 Tryz.underlying3 rfl (by kernel_rfl) w) (eq_int Tryz.underlying3 (d + 0) _ _ _ w) ?_
  obtain ⟨f4, l4, rfl, h4, hl⟩ := List.map_eq_cons_iff.1 hl
  refine eqC_cons (ft := 3) (fo := 4) (a := (.int .i64 a4)) (b := (.int .i64 b4)) h4 (part1 Tryz.underlying3 rfl (by kernel_rfl) w) (part1 Tryz.underlying3 rfl (by kernel_rfl) w) (eq_int Tryz.underlying3 (d + 0) _ _ _ w) ?_
  obtain rfl := List.map_eq_nil_iff.1 hl
  exact eqC_nil
theorem o_eql27 {ρ : Operand → Value} {w : World} {K : Value → World → Prop} {dst : Option Tmp} {T : TypeId} {pos : String} {after : Array Edge} {g : Option (Nat × Bool)} {u : TypeId} {x y : Operand} (a0 : Int) (a1 : Int) (a2 : Int) (a3 : Int) (a4 : Int) (b0 : Int) (b1 : Int) (b2 : Int) (b3 : Int) (b4 : Int) (hx : ρ x = .agg #[(.int .i64 a0), (.int .i64 a1), (.int .i64 a2), (.int .i64 a3), (.int .i64 a4)]) (hy : ρ y = .agg #[(.int .i64 b0), (.int .i64 b1), (.int .i64 b2), (.int .i64 b3), (.int .i64 b4)]) (h : K (.bool ((eqv27 a0 a1 a2 a3 a4 b0 b1 b2 b3 b4))) w) :
    OK Tryz.prog ⟨dst, .binOp .eql 27 x y u, T, pos, after, g⟩ ρ w K :=
  o_eqx hx hy (run_eqGuard_agg w _ _ _ _ _ _ (by kernel_rfl)) rfl (eqT27 (9998) w a0 a1 a2 a3 a4 b0 b1 b2 b3 b4) h
theorem o_neq27 {ρ : Operand → Value} {w : World} {K : Value → World → Prop} {dst : Option Tmp} {T : TypeId} {pos : String} {after : Array Edge} {g : Option (Nat × Bool)} {u : TypeId} {x y : Operand} (a0 : Int) (a1 : Int) (a2 : Int) (a3 : Int) (a4 : Int) (b0 : Int) (b1 : Int) (b2 : Int) (b3 : Int) (b4 : Int) (hx : ρ x = .agg #[(.int .i64 a0), (.int .i64 a1), (.int .i64 a2), (.int .i64 a3), (.int .i64 a4)]) (hy : ρ y = .agg #[(.int .i64 b0), (.int .i64 b1), (.int .i64 b2), (.int .i64 b3), (.int .i64 b4)]) (h : K (.bool (!(eqv27 a0 a1 a2 a3 a4 b0 b1 b2 b3 b4))) w) :
    OK Tryz.prog ⟨dst, .binOp .neq 27 x y u, T, pos, after, g⟩ ρ w K :=
  o_nex hx hy (run_eqGuard_agg w _ _ _ _ _ _ (by kernel_rfl)) rfl (eqT27 (9998) w a0 a1 a2 a3 a4 b0 b1 b2 b3 b4) h
theorem eqv27_iff (a0 : Int) (a1 : Int) (a2 : Int) (a3 : Int) (a4 : Int) (b0 : Int) (b1 : Int) (b2 : Int) (b3 : Int) (b4 : Int) : eqv27 a0 a1 a2 a3 a4 b0 b1 b2 b3 b4 = true ↔ a0 = b0 ∧ a1 = b1 ∧ a2 = b2 ∧ a3 = b3 ∧ a4 = b4 := by
  unfold eqv27; simp
theorem eqv27_dec (a0 : Int) (a1 : Int) (a2 : Int) (a3 : Int) (a4 : Int) (b0 : Int) (b1 : Int) (b2 : Int) (b3 : Int) (b4 : Int) : eqv27 a0 a1 a2 a3 a4 b0 b1 b2 b3 b4 = decide (a0 = b0 ∧ a1 = b1 ∧ a2 = b2 ∧ a3 = b3 ∧ a4 = b4) := by rw [Bool.eq_iff_iff, eqv27_iff, decide_eq_true_iff]
def eqv23 (a0 : Int) (a1 : Int) (a2 : Int) (a3 : Int) (a4 : Int) (b0 : Int) (b1 : Int) (b2 : Int) (b3 : Int) (b4 : Int) : Bool := (decide (a0 = b0) && (decide (a1 = b1) && (decide (a2 = b2) && (decide (a3 = b3) && (decide (a4 = b4) && true)))))
theorem eqT23 (d : Nat) (w : World) (a0 : Int) (a1 : Int) (a2 : Int) (a3 : Int) (a4 : Int) (b0 : Int) (b1 : Int) (b2 : Int) (b3 : Int) (b4 : Int) : (Op.equalIn (d + 2) 23 (.agg #[(.int .i64 a0), (.int .i64 a1), (.int .i64 a2), (.int .i64 a3), (.int .i64 a4)]) (.agg #[(.int .i64 b0), (.int .i64 b1), (.int .i64 b2), (.int .i64 b3), (.int .i64 b4)])).run Tryz.prog w = .ok (eqv23 a0 a1 a2 a3 a4 b0 b1 b2 b3 b4) w := by
  rw [run_equalIn_struct w _ 23 _ _ (by kernel_rfl) (by kernel_rfl)]
  refine eqC_fields (m := [(3, 0, false), (3, 1, false), (3, 2, false), (3, 3, false), (3, 4, false)]) (by kernel_rfl) fun l hl => ?_
  obtain ⟨f0, l0, rfl, h0, hl⟩ := List.map_eq_cons_iff.1 hl
  refine eqC_cons (ft := 3) (fo := 0) (a := (.int .i64 a0)) (b := (.int .i64 b0)) h0 (part1 Tryz.underlying3 rfl (by kernel_rfl) w) (part1 Tryz.underlying3 rfl (by kernel_rfl) w) (eq_int Tryz.underlying3 (d + 0) _ _ _ w) ?_
  obtain ⟨f1, l1, rfl, h1, hl⟩ := List.map_eq_cons_iff.1 hl
  refine eqC_cons (ft := 3) (fo := 1) (a := (.int .i64 a1)) (b := (.int .i64 b1)) h1 (part1 Tryz.underlying3 rfl (by kernel_rfl) w) (part1 Tryz.underlying3 rfl (by kernel_rfl) w) (eq_int Tryz.underlying3 (d + 0) _ _ _ w) ?_
  obtain ⟨f2, l2, rfl, h2, hl⟩ := List.map_eq_cons_iff.1 hl
  refine eqC_cons (ft := 3) (fo := 2) (a := (.int .i64 a2)) (b := (.int .i64 b2)) h2 (part1 Tryz.underlying3 rfl (by kernel_rfl) w) (part1 Tryz.underlying3 rfl (by kernel_rfl) w) (eq_int Tryz.underlying3 (d + 0) _ _ _ w) ?_
  obtain ⟨f3, l3, rfl, h3, hl⟩ := List.map_eq_cons_iff.1 hl
  refine eqC_cons (ft := 3) (fo := 3) (a := (.int .i64 a3)) (b := (.int .i64 b3)) h3 (part1 Tryz.underlying3 rfl (by kernel_rfl) w) (part1 Tryz.underlying3 rfl (by kernel_rfl) w) (eq_int Tryz.underlying3 (d + 0) _ _ _ w) ?_
  obtain ⟨f4, l4, rfl, h4, hl⟩ := List.map_eq_cons_iff.1 hl
  refine eqC_cons (ft := 3) (fo := 4) (a := (.int .i64 a4)) (b := (.int .i64 b4)) h4 (part1 Tryz.underlying3 rfl (by kernel_rfl) w) (part1 Tryz.underlying3 rfl (by kernel_rfl) w) (eq_int Tryz.underlying3 (d + 0) _ _ _ w) ?_
  obtain rfl := List.map_eq_nil_iff.1 hl
  exact eqC_nil
theorem o_eql23 {ρ : Operand → Value} {w : World} {K : Value → World → Prop} {dst : Option Tmp} {T : TypeId} {pos : String} {after : Array Edge} {g : Option (Nat × Bool)} {u : TypeId} {x y : Operand} (a0 : Int) (a1 : Int) (a2 : Int) (a3 : Int) (a4 : Int) (b0 : Int) (b1 : Int) (b2 : Int) (b3 : Int) (b4 : Int) (hx : ρ x = .agg #[(.int .i64 a0), (.int .i64 a1), (.int .i64 a2), (.int .i64 a3), (.int .i64 a4)]) (hy : ρ y = .agg #[(.int .i64 b0), (.int .i64 b1), (.int .i64 b2), (.int .i64 b3), (.int .i64 b4)]) (h : K (.bool ((eqv23 a0 a1 a2 a3 a4 b0 b1 b2 b3 b4))) w) :
    OK Tryz.prog ⟨dst, .binOp .eql 23 x y u, T, pos, after, g⟩ ρ w K :=
  o_eqx hx hy (run_eqGuard_agg w _ _ _ _ _ _ (by kernel_rfl)) rfl (eqT23 (9998) w a0 a1 a2 a3 a4 b0 b1 b2 b3 b4) h
theorem o_neq23 {ρ : Operand → Value} {w : World} {K : Value → World → Prop} {dst : Option Tmp} {T : TypeId} {pos : String} {after : Array Edge} {g : Option (Nat × Bool)} {u : TypeId} {x y : Operand} (a0 : Int) (a1 : Int) (a2 : Int) (a3 : Int) (a4 : Int) (b0 : Int) (b1 : Int) (b2 : Int) (b3 : Int) (b4 : Int) (hx : ρ x = .agg #[(.int .i64 a0), (.int .i64 a1), (.int .i64 a2), (.int .i64 a3), (.int .i64 a4)]) (hy : ρ y = .agg #[(.int .i64 b0), (.int .i64 b1), (.int .i64 b2), (.int .i64 b3), (.int .i64 b4)]) (h : K (.bool (!(eqv23 a0 a1 a2 a3 a4 b0 b1 b2 b3 b4))) w) :
    OK Tryz.prog ⟨dst, .binOp .neq 23 x y u, T, pos, after, g⟩ ρ w K :=
  o_nex hx hy (run_eqGuard_agg w _ _ _ _ _ _ (by kernel_rfl)) rfl (eqT23 (9998) w a0 a1 a2 a3 a4 b0 b1 b2 b3 b4) h
theorem eqv23_iff (a0 : Int) (a1 : Int) (a2 : Int) (a3 : Int) (a4 : Int) (b0 : Int) (b1 : Int) (b2 : Int) (b3 : Int) (b4 : Int) : eqv23 a0 a1 a2 a3 a4 b0 b1 b2 b3 b4 = true ↔ a0 = b0 ∧ a1 = b1 ∧ a2 = b2 ∧ a3 = b3 ∧ a4 = b4 := by
  unfold eqv23; simp
theorem eqv23_dec (a0 : Int) (a1 : Int) (a2 : Int) (a3 : Int) (a4 : Int) (b0 : Int) (b1 : Int) (b2 : Int) (b3 : Int) (b4 : Int) : eqv23 a0 a1 a2 a3 a4 b0 b1 b2 b3 b4 = decide (a0 = b0 ∧ a1 = b1 ∧ a2 = b2 ∧ a3 = b3 ∧ a4 = b4) := by rw [Bool.eq_iff_iff, eqv23_iff, decide_eq_true_iff]
def eqv50 (a0 : Int) (a1 : Int) (b0 : Int) (b1 : Int) : Bool := (decide (a0 = b0) && (decide (a1 = b1) && true))
theorem eqT50 (d : Nat) (w : World) (a0 : Int) (a1 : Int) (b0 : Int) (b1 : Int) : (Op.equalIn (d + 2) 50 (.agg #[(.int .i64 a0), (.int .i64 a1)]) (.agg #[(.int .i64 b0), (.int .i64 b1)])).run Tryz.prog w = .ok (eqv50 a0 a1 b0 b1) w := by
  rw [run_equalIn_struct w _ 50 _ _ (by kernel_rfl) (by kernel_rfl)]
  refine eqC_fields (m := [(3, 0, false), (3, 1, false)]) (by kernel_rfl) fun l hl => ?_
  obtain ⟨f0, l0, rfl, h0, hl⟩ := List.map_eq_cons_iff.1 hl
  refine eqC_cons (ft := 3) (fo := 0) (a := (.int .i64 a0)) (b := (.int .i64 b0)) h0 (part1 Tryz.underlying3 rfl (by kernel_rfl) w) (part1 Tryz.underlying3 rfl (by kernel_rfl) w) (eq_int Tryz.underlying3 (d + 0) _ _ _ w) ?_
  obtain ⟨f1, l1, rfl, h1, hl⟩ := List.map_eq_cons_iff.1 hl
  refine eqC_cons (ft := 3) (fo := 1) (a := (.int .i64 a1)) (b := (.int .i64 b1)) h1 (part1 Tryz.underlying3 rfl (by kernel_rfl) w) (part1 Tryz.underlying3 rfl (by kernel_rfl) w) (eq_int Tryz.underlying3 (d + 0) _ _ _ w) ?_
  obtain rfl := List.map_eq_nil_iff.1 hl
  exact eqC_nil
theorem o_eql50 {ρ : Operand → Value} {w : World} {K : Value → World → Prop} {dst : Option Tmp} {T : TypeId} {pos : String} {after : Array Edge} {g : Option (Nat × Bool)} {u : TypeId} {x y : Operand} (a0 : Int) (a1 : Int) (b0 : Int) (b1 : Int) (hx : ρ x = .agg #[(.int .i64 a0), (.int .i64 a1)]) (hy : ρ y = .agg #[(.int .i64 b0), (.int .i64 b1)]) (h : K (.bool ((eqv50 a0 a1 b0 b1))) w) :
    OK Tryz.prog ⟨dst, .binOp .eql 50 x y u, T, pos, after, g⟩ ρ w K :=
  o_eqx hx hy (run_eqGuard_agg w _ _ _ _ _ _ (by kernel_rfl)) rfl (eqT50 (9998) w a0 a1 b0 b1) h
theorem o_neq50 {ρ : Operand → Value} {w : World} {K : Value → World → Prop} {dst : Option Tmp} {T : TypeId} {pos : String} {after : Array Edge} {g : Option (Nat × Bool)} {u : TypeId} {x y : Operand} (a0 : Int) (a1 : Int) (b0 : Int) (b1 : Int) (hx : ρ x = .agg #[(.int .i64 a0), (.int .i64 a1)]) (hy : ρ y = .agg #[(.int .i64 b0), (.int .i64 b1)]) (h : K (.bool (!(eqv50 a0 a1 b0 b1))) w) :
    OK Tryz.prog ⟨dst, .binOp .neq 50 x y u, T, pos, after, g⟩ ρ w K :=
  o_nex hx hy (run_eqGuard_agg w _ _ _ _ _ _ (by kernel_rfl)) rfl (eqT50 (9998) w a0 a1 b0 b1) h
theorem eqv50_iff (a0 : Int) (a1 : Int) (b0 : Int) (b1 : Int) : eqv50 a0 a1 b0 b1 = true ↔ a0 = b0 ∧ a1 = b1 := by
  unfold eqv50; simp
theorem eqv50_dec (a0 : Int) (a1 : Int) (b0 : Int) (b1 : Int) : eqv50 a0 a1 b0 b1 = decide (a0 = b0 ∧ a1 = b1) := by rw [Bool.eq_iff_iff, eqv50_iff, decide_eq_true_iff]
end Go.Q
namespace Go.Q
def ptC (a : Int × Int) : List Value := [iV a.1, iV a.2]
theorem ptC_len (a : Int × Int) : (ptC a).length = 2 := rfl
/-- the head that keeps a point -/
def hdK (h : Hd) (pl pn : Int) : Hd := ⟨h.seq, 0, pn, pl, 0⟩
def lowS (n : Int) (l : List Int) : Int := l.foldl (fun n x => if 0 ≤ x then min n x else n) n
theorem lowS_snoc {n y : Int} {l : List Int} {k : Nat} {x : Int} (h : l[k]? = some x) (hy : y = lowS n (l.take k)) : lowS n (l.take (k + 1)) = if 0 ≤ x then min y x else y := by
  unfold lowS at *
  rw [take_succ_of h, List.foldl_append, ← hy]
  rfl
theorem lowS_le (l : List Int) : ∀ n : Int, lowS n l ≤ n := by
  induction l with
  | nil => intro n; exact Int.le_refl _
  | cons x t ih =>
    intro n
    show lowS (if 0 ≤ x then min n x else n) t ≤ n
    refine Int.le_trans (ih _) ?_
    split <;> omega
theorem lowS_mem (l : List Int) : ∀ n : Int, ∀ x ∈ l, 0 ≤ x → lowS n l ≤ x := by
  induction l with
  | nil => intro n x hx; cases hx
  | cons y t ih =>
    intro n x hx h0
    show lowS (if 0 ≤ y then min n y else n) t ≤ x
    rcases List.mem_cons.1 hx with rfl | hx
    · rw [if_pos h0]; exact Int.le_trans (lowS_le t _) (by omega)
    · exact ih _ x hx h0
theorem lowS_is (l : List Int) : ∀ n : Int, 0 ≤ n → (lowS n l = n ∨ lowS n l ∈ l) ∧ 0 ≤ lowS n l := by
  induction l with
  | nil => intro n h; exact ⟨.inl rfl, h⟩
  | cons y t ih =>
    intro n h
    have e : lowS n (y :: t) = lowS (if 0 ≤ y then min n y else n) t := rfl
    rw [e]
    by_cases g : 0 ≤ y
    · rw [if_pos g]
      obtain ⟨h1, h2⟩ := ih (min n y) (by omega)
      refine ⟨?_, h2⟩
      rcases h1 with h1 | h1
      · by_cases q : n ≤ y
        · exact .inl (by rw [h1]; omega)
        · exact .inr (by rw [h1, show min n y = y by omega]; exact List.mem_cons_self)
      · exact .inr (List.mem_cons_of_mem _ h1)
    · rw [if_neg g]
      obtain ⟨h1, h2⟩ := ih n h
      exact ⟨h1.imp id (List.mem_cons_of_mem _), h2⟩
/-- a point's head may be saved -/
theorem pt_try {k : Nat} {pl pn : Int} {h : Hd} (hk : 2 ≤ k) (h1 : 0 ≤ h.seq ∧ h.seq < 4611686018427387903) (hl : 0 ≤ pl ∧ pl ≤ 4611686018427387903) (hn : 0 ≤ pn ∧ pn ≤ 4611686018427387903) : svTry k 0 (hdK h pl pn) :=
  ⟨⟨h1, decide_eq_true ⟨⟨h1.1, by show h.seq ≤ _; omega⟩, ⟨by show (0 : Int) ≤ 0; decide, by show (0 : Int) ≤ _; decide⟩, hn, hl, ⟨by show (0 : Int) ≤ 0; decide, by show (0 : Int) ≤ _; decide⟩⟩⟩, by decide, by omega⟩
theorem pt_bad {k : Nat} {pl pn : Int} {h : Hd} (g : ¬ (0 ≤ pl ∧ pl ≤ 4611686018427387903) ∨ ¬ (0 ≤ pn ∧ pn ≤ 4611686018427387903)) : ¬ svTry k 0 (hdK h pl pn) := by
  intro q
  obtain ⟨b1, b2, b3, b4, b5⟩ := of_decide_eq_true q.1.2
  exact g.elim (fun k => k b4) (fun k => k b3)
theorem sumS_one {n : Int} (h : 0 ≤ n ∧ n ≤ 1152921504606846976) : sumS 0 [n, 1] = n + 1 := by
  rw [sumS, if_neg (by omega), sumS, if_neg (by omega), sumS]
  omega
theorem kp_first {k : Nat} {h : Hd} (hT : svTry k 0 h) : KpA ((List.replicate k blankS).set (svN 0 h).toNat (hdL (hdUp h))) 0 (hdUp h) := by
  have hn : inS (svN 0 h) (List.replicate k blankS).length := by rw [List.length_replicate]; exact svN_in hT
  have hk : (0 : Int) < (k : Int) - 1 := hT.2.2
  unfold KpA
  rw [sec_set hn (by decide), sec_set hn (by decide), sec_rep (by show 0 < k; omega), sec_rep (by show 1 < k; omega)]
  refine ⟨hT.1.up, ?_⟩
  have e : svN 0 h = (h.seq + 1) % 2 := by unfold svN; omega
  by_cases he : (h.seq + 1) % 2 = 0
  · rw [if_pos (show (hdUp h).seq % 2 = 0 from he), if_pos (by rw [e, he]), if_neg (by rw [e, he]; decide)]
    refine ⟨rfl, fun g => ?_⟩
    rw [hdP_blank] at g
    cases g
  · have he : (h.seq + 1) % 2 = 1 := by omega
    rw [if_neg (by show ¬ (h.seq + 1) % 2 = 0; omega), if_pos (by rw [e, he]; decide), if_neg (by rw [e, he]; decide)]
    refine ⟨rfl, fun g => ?_⟩
    rw [hdP_blank] at g
    cases g
theorem ld_blank {p : Pw} {k : Nat} (hk : 2 ≤ k) (hp : p.off = false) : ldE p (List.replicate k blankS) 0 = 7 := by
  have ha : atOk (List.replicate k blankS).length 0 := by rw [List.length_replicate]; exact ⟨by decide, by omega⟩
  unfold ldE
  rw [if_pos ha, if_pos hp, sec_rep (by show 0 < k; omega), sec_rep (by show 1 < k; omega)]
  unfold ldP
  rw [hdP_blank]
  decide +kernel
theorem low_step {l : List Int} {i : Nat} {x n m : Int} {bb b2 : Bool} (h : bb = decide (m = n + 1 ∨ m ∈ l.take i)) (hx : l[i]? = some x) (e : b2 = (bb || decide (x = m))) : b2 = decide (m = n + 1 ∨ m ∈ l.take (i + 1)) := by
  rw [e, h, take_succ_of hx, Bool.eq_iff_iff]
  simp only [Bool.or_eq_true, decide_eq_true_eq, List.mem_append, List.mem_singleton]
  constructor
  · rintro ((h | h) | h)
    · exact .inl h
    · exact .inr (.inl h)
    · exact .inr (.inr h.symm)
  · rintro (h | h | h)
    · exact .inl (.inl h)
    · exact .inl (.inr h)
    · exact .inr h.symm
end Go.Q
namespace Go.Q
open Go.Proofs
set_option linter.unusedVariables false
set_option maxRecDepth 100000
attribute [local irreducible] wpList OK Code.wp
set_option maxHeartbeats 4000000 in
theorem low_c {E w : World} {R : List Hp} (hH : Has E w [R]) (n : Int) {v : Value} {l : List Int} (hv : Ints R v l) :
    Calls Tryz.prog 21 #[(.int .i64 n), v] w fun e w' => e = .returned (.int .i64 (lowS (sumS 0 [n, 1]) l)) ∧ Has E w' [R] := by
  have hn_ := hv.le
  refine c_enter (args := [(.int .i64 n), v]) Tryz.func21 rfl Tryz.ntmps21 (by simp) ?_
  refine wp_seq_k fun K1 hK1 => ?_
  refine c_region ?_
  refine s_op (o_assign (v := (.int .i64 0)) rfl ?_)
  refine s_nil ?_
  refine t_norm (hK1 _ _ ?_)
  refine wp_seq_k fun K2 hK2 => ?_
  refine c_region ?_
  refine s_op (o_move (v := (.int .i64 n)) rfl ?_)
  refine s_op (o_buildSlice (ps := #[(0, (.int .i64 n)), (1, (.int .i64 1))]) (cells := #[(.int .i64 n), (.int .i64 1)]) Tryz.underlying46 ti3 (by decide) (parts2 rfl rfl) (by kernel_rfl) hH fun b3 w4 hH5 => ?_)
  refine s_op (o_callf (vs := #[(.slice (some ⟨b3, 0, none⟩) 2 2)]) ca47 rfl (args1 rfl) (sum_c hH5.all (l := [n, 1]) ((sl_lit (f := iV) (l := [n, 1]) rfl rfl (by simp)).mono (seg_sub 0 rfl))) ?_)
  rintro _ w8 ⟨rfl, hX6⟩
  refine ⟨_, rfl, ?_⟩
  have hH7 := hX6.of_all
  refine s_op (o_assign (v := (.int .i64 (sumS 0 [n, 1]))) rfl ?_)
  refine s_nil ?_
  refine t_norm (hK2 _ _ ?_)
  refine wp_seq_k fun K9 hK9 => ?_
  refine wp_seq_k fun K10 hK10 => ?_
  refine c_region ?_
  refine s_op (o_move (v := v) rfl ?_)
  refine s_op (o_lenS Tryz.underlying46 rfl hv ?_)
  refine s_op (o_move (v := (.int .i64 0)) rfl ?_)
  refine s_nil ?_
  refine t_norm (hK10 _ _ ?_)
  refine wp_block ?_
  let I12 : Nat → (Nat → Value) → World → Prop := fun n__ r__ w__ => ∃ (k : Nat) (y : Int), n__ = l.length - k ∧ Has E w__ [[Hp.one b3 (.cells #[(.int .i64 n), (.int .i64 1)] 3 (0, 0))], R] ∧ (k ≤ l.length) ∧ (y = lowS (sumS 0 [n, 1]) (l.take k)) ∧ r__ 0 = (.int .i64 n) ∧ r__ 1 = v ∧ r__ 4 = (.int .i64 0) ∧ r__ 5 = (.int .i64 y) ∧ r__ 11 = v ∧ r__ 12 = (.int .i64 ((l.length : Nat) : Int)) ∧ r__ 13 = (.int .i64 (k : Int))
  refine c_loop I12 _ ⟨0, (sumS 0 [n, 1]), rfl, hH7, Nat.zero_le _, rfl, rfl, rfl, rfl, rfl, rfl, rfl, rfl⟩ ?_
  rintro n_ r15 w13 ⟨k, y, rfl, hH14, hk, hy, e11_0, e11_1, e11_4, e11_5, e11_11, e11_12, e11_13⟩
  refine wp_seq_k fun K16 hK16 => ?_
  refine c_region ?_
  refine s_op (o_lss (a := (k : Int)) (b := ((l.length : Nat) : Int)) e11_13 e11_12 ?_)
  refine s_nil ?_
  refine t_norm (hK16 _ _ ?_)
  refine wp_seq_k fun K17 hK17 => ?_
  refine c_cond rfl (fun h18 => ?_) (fun h18 => ?_)
  · -- (k : Int) < ((l.length : Nat) : Int)
    refine wp_skip ?_
    refine t_norm (hK17 _ _ ?_)
    refine wp_seq_k fun K19 hK19 => ?_
    refine wp_block ?_
    refine wp_seq_k fun K20 hK20 => ?_
    refine c_region ?_
    obtain ⟨x24, hx25⟩ : ∃ x_, l[((k : Int)).toNat]? = some x_ := get_some (by omega)
    refine s_op (o_index1 Tryz.underlying46 ti3 e11_11 hv e11_13 (by omega) hx25 fun b21 o22 hc23 => ?_)
    refine s_op (o_load1 (v := (.int .i64 x24)) Tryz.underlying3 rfl rfl hH14 (seg_sub 1 rfl) hc23 ?_)
    refine s_op (o_assign (v := (.int .i64 x24)) rfl ?_)
    refine s_nil ?_
    refine t_norm (hK20 _ _ ?_)
    refine wp_seq_k fun K26 hK26 => ?_
    refine c_region ?_
    refine s_op (o_move (v := (.int .i64 x24)) rfl ?_)
    refine s_op (o_geq (a := x24) (b := 0) rfl rfl ?_)
    refine s_nil ?_
    refine t_norm (hK26 _ _ ?_)
    refine c_cond rfl (fun h27 => ?_) (fun h27 => ?_)
    · -- 0 ≤ x24
      refine c_region ?_
      refine s_op (o_move (v := (.int .i64 y)) e11_5 ?_)
      refine s_op (o_move (v := (.int .i64 x24)) rfl ?_)
      refine s_op (o_min (a := y) (b := x24) rfl rfl ?_)
      refine s_op (o_assign (v := (.int .i64 (min y x24))) rfl ?_)
      refine s_nil ?_
      refine b_norm ?_
      refine t_norm (hK19 _ _ ?_)
      refine c_region ?_
      refine s_op (o_add (a := (k : Int)) (b := 1) e11_13 rfl (w64 (by omega) (by omega)) ?_)
      refine s_op (o_move (v := (.int .i64 ((k : Int) + 1))) rfl ?_)
      refine s_nil ?_
      refine t_norm ⟨l.length - (k + 1), _, rfl, ?_, ?_⟩
      · omega
      · exact ⟨(k + 1), (min y x24), rfl, hH14, (by omega), (by rw [lowS_snoc (show l[k]? = some _ from hx25) hy, if_pos (by omega)]), e11_0, e11_1, e11_4, rfl, e11_11, e11_12, rfl⟩
    · -- not: 0 ≤ x24
      refine wp_skip ?_
      refine b_norm ?_
      refine t_norm (hK19 _ _ ?_)
      refine c_region ?_
      refine s_op (o_add (a := (k : Int)) (b := 1) e11_13 rfl (w64 (by omega) (by omega)) ?_)
      refine s_op (o_move (v := (.int .i64 ((k : Int) + 1))) rfl ?_)
      refine s_nil ?_
      refine t_norm ⟨l.length - (k + 1), _, rfl, ?_, ?_⟩
      · omega
      · exact ⟨(k + 1), y, rfl, hH14, (by omega), (by rw [lowS_snoc (show l[k]? = some _ from hx25) hy, if_neg (by omega)]), e11_0, e11_1, e11_4, e11_5, e11_11, e11_12, rfl⟩
  · -- not: (k : Int) < ((l.length : Nat) : Int)
    refine wp_exit ?_
    refine t_exit (t_exit (x_in (?_)))
    refine t_norm (hK9 _ _ ?_)
    refine wp_seq_k fun K28 hK28 => ?_
    refine c_region ?_
    refine s_op (o_move (v := (.int .i64 y)) e11_5 ?_)
    refine s_op (o_assign (v := (.int .i64 y)) rfl ?_)
    refine s_nil ?_
    refine t_norm (hK28 _ _ ?_)
    refine wp_ret ?_
    refine c_ret1 Tryz.results21  (v := (.int .i64 y)) rfl ?_
    have hH29 : Has E w13 [R] := (hH14.front 1 rfl).first 1 rfl
    have e_ : k = l.length := by omega
    rw [e_, List.take_length] at hy
    exact ⟨by rw [hy], hH29⟩
set_option maxHeartbeats 4000000 in
theorem pat_c {E w : World} {R : List Hp} (hH : Has E w [R]) (db : Nat) (h : Hd) :
    Calls Tryz.prog 48 #[(.pointer (some ⟨db, 0, none⟩)), (.agg #[(.int .i64 h.seq), (.int .i64 h.ep), (.int .i64 h.cut), (.int .i64 h.st), (.int .i64 h.mrk)])] w fun e w' => ∃ mb, e = .returned (.pointer (some ⟨mb, 0, none⟩)) ∧ Has E w' [[Hp.one mb (.cells #[(.int .i64 h.st), (.int .i64 h.cut), (.int .i64 h.seq), (.int .i64 h.ep), (.int .i64 h.cut), (.int .i64 h.st), (.int .i64 h.mrk), (.pointer (some ⟨db, 0, none⟩))] 95 (0, 0))], R] := by
  refine c_enter (args := [(.pointer (some ⟨db, 0, none⟩)), (.agg #[(.int .i64 h.seq), (.int .i64 h.ep), (.int .i64 h.cut), (.int .i64 h.st), (.int .i64 h.mrk)])]) Tryz.func48 rfl Tryz.ntmps48 (by simp) ?_
  refine wp_seq_k fun K1 hK1 => ?_
  refine c_region ?_
  refine s_op (o_box (cs := #[(.int .i64 h.seq), (.int .i64 h.ep), (.int .i64 h.cut), (.int .i64 h.st), (.int .i64 h.mrk)]) rfl rfl hH fun b2 w3 hH4 => ?_)
  refine s_op (o_assign (v := (.pointer none)) rfl ?_)
  refine s_nil ?_
  refine t_norm (hK1 _ _ ?_)
  refine wp_seq_k fun K5 hK5 => ?_
  refine c_region ?_
  refine s_op (o_fieldAddr (k := 3) (fun _ => by kernel_rfl) rfl ?_)
  refine s_op (o_load1 (v := (.int .i64 h.st)) Tryz.underlying3 rfl rfl hH4 (seg_sub 0 rfl) (CellsAt.one rfl) ?_)
  refine s_op (o_fieldAddr (k := 2) (fun _ => by kernel_rfl) rfl ?_)
  refine s_op (o_load1 (v := (.int .i64 h.cut)) Tryz.underlying3 rfl rfl hH4 (seg_sub 0 rfl) (CellsAt.one rfl) ?_)
  refine s_op (o_sight (v := (.agg #[(.int .i64 h.st), (.int .i64 h.cut)])) (fun _ => by kernel_rfl) ?_)
  refine s_op (o_loadN (cs := [(.int .i64 h.seq), (.int .i64 h.ep), (.int .i64 h.cut), (.int .i64 h.st), (.int .i64 h.mrk)]) Tryz.underlying27 rfl ti27 rfl hH4 (seg_sub 0 rfl) (CellsAt.one rfl) ?_)
  refine s_op (o_sight (v := (.agg #[(.int .i64 h.st), (.int .i64 h.cut), (.int .i64 h.seq), (.int .i64 h.ep), (.int .i64 h.cut), (.int .i64 h.st), (.int .i64 h.mrk)])) (fun _ => by kernel_rfl) ?_)
  refine s_op (o_move (v := (.pointer (some ⟨db, 0, none⟩))) rfl ?_)
  refine s_op (o_sight (v := (.agg #[(.int .i64 h.st), (.int .i64 h.cut), (.int .i64 h.seq), (.int .i64 h.ep), (.int .i64 h.cut), (.int .i64 h.st), (.int .i64 h.mrk), (.pointer (some ⟨db, 0, none⟩))])) (fun _ => by kernel_rfl) ?_)
  refine s_op (o_box (cs := #[(.int .i64 h.st), (.int .i64 h.cut), (.int .i64 h.seq), (.int .i64 h.ep), (.int .i64 h.cut), (.int .i64 h.st), (.int .i64 h.mrk), (.pointer (some ⟨db, 0, none⟩))]) rfl rfl hH4 fun b6 w7 hH8 => ?_)
  refine s_op (o_assign (v := (.pointer (some ⟨b6, 0, none⟩))) rfl ?_)
  refine s_nil ?_
  refine t_norm (hK5 _ _ ?_)
  refine wp_ret ?_
  refine c_ret1 Tryz.results48  (v := (.pointer (some ⟨b6, 0, none⟩))) rfl ?_
  have hH9 : Has E w7 [[Hp.one b6 (.cells #[(.int .i64 h.st), (.int .i64 h.cut), (.int .i64 h.seq), (.int .i64 h.ep), (.int .i64 h.cut), (.int .i64 h.st), (.int .i64 h.mrk), (.pointer (some ⟨db, 0, none⟩))] 95 (0, 0))], R] := ((hH8.front 2 rfl).front 1 rfl).first 2 rfl
  exact ⟨_, rfl, hH9⟩
set_option maxHeartbeats 4000000 in
theorem mpoint_c {E w : World} {R : List Hp} (hH : Has E w [R]) {mb db : Nat} {h : Hd} (hc : CellsAt R mb 0 [(.int .i64 h.st), (.int .i64 h.cut), (.int .i64 h.seq), (.int .i64 h.ep), (.int .i64 h.cut), (.int .i64 h.st), (.int .i64 h.mrk), (.pointer (some ⟨db, 0, none⟩))]) :
    Calls Tryz.prog 25 #[(.pointer (some ⟨mb, 0, none⟩))] w fun e w' => e = .returned (.agg #[.int .i64 h.st, .int .i64 h.cut]) ∧ Has E w' [R] := by
  refine c_enter (args := [(.pointer (some ⟨mb, 0, none⟩))]) Tryz.func25 rfl Tryz.ntmps25 (by simp) ?_
  refine wp_seq_k fun K1 hK1 => ?_
  refine c_region ?_
  refine s_op (o_alloc (cs := #[(.int .i64 0), (.int .i64 0)]) ti50 rfl hH fun b2 w3 hH4 => ?_)
  refine s_nil ?_
  refine t_norm (hK1 _ _ ?_)
  refine wp_seq_k fun K5 hK5 => ?_
  refine wp_seq_k fun K6 hK6 => ?_
  refine c_region ?_
  refine s_op (o_move (v := (.pointer (some ⟨mb, 0, none⟩))) rfl ?_)
  refine s_op (o_pnil (p := some _) Tryz.underlying51 rfl rfl ?_)
  refine s_nil ?_
  refine t_norm (hK6 _ _ ?_)
  refine c_false rfl rfl ?_
  refine wp_skip ?_
  refine t_norm (hK5 _ _ ?_)
  refine wp_seq_k fun K7 hK7 => ?_
  refine c_region ?_
  refine s_op (o_move (v := (.pointer (some ⟨mb, 0, none⟩))) rfl ?_)
  refine s_op (o_nilCheck rfl ?_)
  refine s_op (o_fieldAddr (k := 0) (fun _ => by kernel_rfl) rfl ?_)
  refine s_op (o_fieldAddr (k := 0) (fun _ => by kernel_rfl) rfl ?_)
  refine s_op (o_loadN (cs := [(.int .i64 h.st), (.int .i64 h.cut)]) Tryz.underlying50 rfl ti50 rfl hH4 (seg_sub 1 rfl) (CellsAt.field (k := 0) (ds := [(.int .i64 h.st), (.int .i64 h.cut)]) (CellsAt.field (k := 0) (ds := [(.int .i64 h.st), (.int .i64 h.cut), (.int .i64 h.seq), (.int .i64 h.ep), (.int .i64 h.cut), (.int .i64 h.st), (.int .i64 h.mrk)]) hc rfl) rfl) ?_)
  refine s_eff (o_storeN (vs := [(.int .i64 h.st), (.int .i64 h.cut)]) (c' := #[(.int .i64 h.st), (.int .i64 h.cut)]) ti50 rfl rfl rfl rfl (by intro u hu; simp only [List.mem_cons, List.not_mem_nil, or_false] at hu; rcases hu with rfl | rfl <;> first | rfl) (by simp) (by kernel_rfl) (hH4.front 0 rfl) fun w8 hH9 => ?_)
  refine s_nil ?_
  refine t_norm (hK7 _ _ ?_)
  refine wp_ret ?_
  refine c_retC1 Tryz.results25 rfl (run_loadVarN (cs := [(.int .i64 h.st), (.int .i64 h.cut)]) Tryz.underlying50 rfl ti50 hH9 (seg_sub 0 rfl) (CellsAt.one rfl)) ?_
  have hH10 : Has E w8 [R] := (hH9.front 1 rfl).first 1 rfl
  exact ⟨rfl, hH10⟩
set_option maxHeartbeats 4000000 in
theorem mpoint_nil {E w : World} {R : List Hp} (hH : Has E w [R]) :
    Calls Tryz.prog 25 #[(.pointer none)] w fun e w' => e = .returned (.agg #[.int .i64 0, .int .i64 0]) ∧ Has E w' [R] := by
  refine c_enter (args := [(.pointer none)]) Tryz.func25 rfl Tryz.ntmps25 (by simp) ?_
  refine wp_seq_k fun K1 hK1 => ?_
  refine c_region ?_
  refine s_op (o_alloc (cs := #[(.int .i64 0), (.int .i64 0)]) ti50 rfl hH fun b2 w3 hH4 => ?_)
  refine s_nil ?_
  refine t_norm (hK1 _ _ ?_)
  refine wp_seq_k fun K5 hK5 => ?_
  refine wp_seq_k fun K6 hK6 => ?_
  refine c_region ?_
  refine s_op (o_move (v := (.pointer none)) rfl ?_)
  refine s_op (o_pnil (p := none) Tryz.underlying51 rfl rfl ?_)
  refine s_nil ?_
  refine t_norm (hK6 _ _ ?_)
  refine c_true rfl rfl ?_
  refine wp_seq_k fun K7 hK7 => ?_
  refine c_region ?_
  refine s_op (o_sight (v := (.agg #[(.int .i64 0), (.int .i64 0)])) (fun _ => by kernel_rfl) ?_)
  refine s_eff (o_storeN (vs := [(.int .i64 0), (.int .i64 0)]) (c' := #[(.int .i64 0), (.int .i64 0)]) ti50 rfl rfl rfl rfl (by intro u hu; simp only [List.mem_cons, List.not_mem_nil, or_false] at hu; rcases hu with rfl | rfl <;> first | rfl) (by simp) (by kernel_rfl) (hH4.front 0 rfl) fun w8 hH9 => ?_)
  refine s_nil ?_
  refine t_norm (hK7 _ _ ?_)
  refine wp_ret ?_
  refine t_ret (c_retC1 Tryz.results25 rfl (run_loadVarN (cs := [(.int .i64 0), (.int .i64 0)]) Tryz.underlying50 rfl ti50 hH9 (seg_sub 0 rfl) (CellsAt.one rfl)) ?_)
  have hH10 : Has E w8 [R] := (hH9.front 1 rfl).first 1 rfl
  exact ⟨rfl, hH10⟩
set_option maxHeartbeats 4000000 in
theorem mkeep_nil {E w : World} {R : List Hp} (hH : Has E w [R]) (pl pn : Int) :
    Calls Tryz.prog 24 #[(.pointer none), (.agg #[(.int .i64 pl), (.int .i64 pn)])] w fun e w' => e = .returned (.int .i64 1) ∧ Has E w' [R] := by
  refine c_enter (args := [(.pointer none), (.agg #[(.int .i64 pl), (.int .i64 pn)])]) Tryz.func24 rfl Tryz.ntmps24 (by simp) ?_
  refine wp_seq_k fun K1 hK1 => ?_
  refine c_region ?_
  refine s_op (o_box (cs := #[(.int .i64 pl), (.int .i64 pn)]) rfl rfl hH fun b2 w3 hH4 => ?_)
  refine s_op (o_assign (v := (.int .i64 0)) rfl ?_)
  refine s_nil ?_
  refine t_norm (hK1 _ _ ?_)
  refine wp_seq_k fun K5 hK5 => ?_
  refine wp_block ?_
  refine wp_seq_k fun K6 hK6 => ?_
  refine Rest.region mixed (by kernel_rfl) ?_
  have hH7 : Has E { w3 with drawn := w3.drawn + 1 } [[Hp.one b2 (.cells #[(.int .i64 pl), (.int .i64 pn)] 50 (0, 0))], R] := Has0.drew hH4 _
  refine r_op 0 rfl (by kernel_rfl) (o_move (v := (.pointer none)) rfl ?_)
  refine r_op 1 rfl (by kernel_rfl) (o_pnil (p := none) Tryz.underlying51 rfl rfl ?_)
  refine r_op 2 rfl (by kernel_rfl) (o_move (v := (.bool true)) rfl ?_)
  refine Rest.phaseA (fun w_ => Has E w_ []) 3 11 8 rfl (by decide) (by kernel_rfl) ?_
  refine a_off (b' := true) 3 rfl (by kernel_rfl) 10 rfl rfl rfl ?_
  refine a_off (b' := true) 4 rfl (by kernel_rfl) 10 rfl rfl rfl ?_
  refine a_off (b' := true) 5 rfl (by kernel_rfl) 10 rfl rfl rfl ?_
  refine a_off (b' := true) 6 rfl (by kernel_rfl) 10 rfl rfl rfl ?_
  refine a_off (b' := true) 7 rfl (by kernel_rfl) 10 rfl rfl rfl ?_
  refine a_off (b' := true) 8 rfl (by kernel_rfl) 10 rfl rfl rfl ?_
  refine a_off (b' := true) 9 rfl (by kernel_rfl) 10 rfl rfl rfl ?_
  refine a_off (b' := true) 10 rfl (by kernel_rfl) 10 rfl rfl rfl ?_
  have hH8 : Has E { w3 with drawn := w3.drawn + 1 } [] := hH7.first 0 rfl
  refine a_done (by kernel_rfl) hH8 ?_
  refine r_off (b' := true) 11 rfl (by kernel_rfl) 10 rfl rfl rfl ?_
  refine r_op 12 rfl (by kernel_rfl) (o_pick_t (u := (.bool true)) rfl rfl ?_)
  refine r_op 13 rfl (by kernel_rfl) (o_move (v := (.bool true)) rfl ?_)
  refine Rest.phaseA (fun w_ => Has E w_ []) 14 22 8 rfl (by decide) (by kernel_rfl) ?_
  refine a_off (b' := true) 14 rfl (by kernel_rfl) 21 rfl rfl rfl ?_
  refine a_off (b' := true) 15 rfl (by kernel_rfl) 21 rfl rfl rfl ?_
  refine a_off (b' := true) 16 rfl (by kernel_rfl) 21 rfl rfl rfl ?_
  refine a_off (b' := true) 17 rfl (by kernel_rfl) 21 rfl rfl rfl ?_
  refine a_off (b' := true) 18 rfl (by kernel_rfl) 21 rfl rfl rfl ?_
  refine a_off (b' := true) 19 rfl (by kernel_rfl) 21 rfl rfl rfl ?_
  refine a_off (b' := true) 20 rfl (by kernel_rfl) 21 rfl rfl rfl ?_
  refine a_off (b' := true) 21 rfl (by kernel_rfl) 21 rfl rfl rfl ?_
  have hH9 : Has E { w3 with drawn := w3.drawn + 1 } [] := hH7.first 0 rfl
  refine a_done (by kernel_rfl) hH9 ?_
  refine r_off (b' := true) 22 rfl (by kernel_rfl) 21 rfl rfl rfl ?_
  refine r_op 23 rfl (by kernel_rfl) (o_pick_t (u := (.bool true)) rfl rfl ?_)
  refine r_op 24 rfl (by kernel_rfl) (o_assign (v := (.bool true)) rfl ?_)
  refine Rest.done (by kernel_rfl) ?_
  refine t_norm (hK6 _ _ ?_)
  refine c_true rfl rfl ?_
  refine wp_seq_k fun K10 hK10 => ?_
  refine c_region ?_
  refine s_op (o_assign (v := (.int .i64 1)) rfl ?_)
  refine s_nil ?_
  refine t_norm (hK10 _ _ ?_)
  refine wp_ret ?_
  refine b_ret (t_ret (c_ret1 Tryz.results24  (v := (.int .i64 1)) rfl ?_))
  have hH11 : Has E { w3 with drawn := w3.drawn + 1 } [R] := (hH7.front 1 rfl).first 1 rfl
  exact ⟨rfl, hH11⟩
set_option maxHeartbeats 4000000 in
theorem open_nil {E w : World} {R : List Hp} (hH : Has E w [R]) :
    Calls Tryz.prog 23 #[(.pointer none)] w fun e w' => e = .returned (.tuple #[.pointer none, .int .i64 1]) ∧ Has E w' [R] := by
  refine c_enter (args := [(.pointer none)]) Tryz.func23 rfl Tryz.ntmps23 (by simp) ?_
  refine wp_seq_k fun K1 hK1 => ?_
  refine c_region ?_
  refine s_op (o_assign (v := (.pointer none)) rfl ?_)
  refine s_op (o_assign (v := (.int .i64 0)) rfl ?_)
  refine s_nil ?_
  refine t_norm (hK1 _ _ ?_)
  refine wp_seq_k fun K2 hK2 => ?_
  refine c_region ?_
  refine s_op (o_move (v := (.pointer none)) rfl ?_)
  refine s_op (o_callf (vs := #[(.pointer none), (.int .i64 0)]) ca19 rfl (args2 rfl rfl) (hload_nil hH.all 0) ?_)
  rintro _ w5 ⟨rfl, hX3⟩
  refine ⟨_, rfl, ?_⟩
  have hH4 := hX3.of_all
  refine s_op (o_move (v := (.tuple #[(.agg #[(.int .i64 hdZ.seq), (.int .i64 hdZ.ep), (.int .i64 hdZ.cut), (.int .i64 hdZ.st), (.int .i64 hdZ.mrk)]), (.int .i64 (1 : Int))])) rfl ?_)
  refine s_op (o_extract (v := (.agg #[(.int .i64 hdZ.seq), (.int .i64 hdZ.ep), (.int .i64 hdZ.cut), (.int .i64 hdZ.st), (.int .i64 hdZ.mrk)])) rfl rfl ?_)
  refine s_op (o_extract (v := (.int .i64 (1 : Int))) rfl rfl ?_)
  refine s_op (o_alloc (cs := #[(.int .i64 0), (.int .i64 0), (.int .i64 0), (.int .i64 0), (.int .i64 0)]) ti27 rfl hH4 fun b6 w7 hH8 => ?_)
  refine s_eff (o_storeN (vs := [(.int .i64 hdZ.seq), (.int .i64 hdZ.ep), (.int .i64 hdZ.cut), (.int .i64 hdZ.st), (.int .i64 hdZ.mrk)]) (c' := #[(.int .i64 hdZ.seq), (.int .i64 hdZ.ep), (.int .i64 hdZ.cut), (.int .i64 hdZ.st), (.int .i64 hdZ.mrk)]) ti27 rfl rfl rfl rfl (by intro u hu; simp only [List.mem_cons, List.not_mem_nil, or_false] at hu; rcases hu with rfl | rfl | rfl | rfl | rfl <;> first | rfl) (by simp) (by kernel_rfl) (hH8.front 0 rfl) fun w9 hH10 => ?_)
  refine s_op (o_assign (v := (.int .i64 (1 : Int))) rfl ?_)
  refine s_nil ?_
  refine t_norm (hK2 _ _ ?_)
  refine wp_seq_k fun K11 hK11 => ?_
  refine wp_block ?_
  refine wp_seq_k fun K12 hK12 => ?_
  refine c_region ?_
  refine s_op (o_move (v := (.int .i64 (1 : Int))) rfl ?_)
  refine s_op (o_neq (a := (1 : Int)) (b := 0) rfl rfl ?_)
  refine s_op (o_assign (v := (.bool (decide ((1 : Int) ≠ 0)))) rfl ?_)
  refine s_nil ?_
  refine t_norm (hK12 _ _ ?_)
  refine c_cond rfl (fun h13 => ?_) (fun h13 => ?_)
  · -- (1 : Int) ≠ 0
    refine wp_seq_k fun K14 hK14 => ?_
    refine c_region ?_
    refine s_op (o_move (v := (.int .i64 (1 : Int))) rfl ?_)
    refine s_op (o_assign (v := (.pointer none)) rfl ?_)
    refine s_op (o_assign (v := (.int .i64 (1 : Int))) rfl ?_)
    refine s_nil ?_
    refine t_norm (hK14 _ _ ?_)
    refine wp_ret ?_
    refine b_ret (t_ret (c_ret2 Tryz.results23  (v := (.pointer none)) rfl (x := (.int .i64 (1 : Int))) rfl ?_))
    have hH15 : Has E w9 [R] := (hH10.front 1 rfl).first 1 rfl
    exact ⟨rfl, hH15⟩
  · -- not: (1 : Int) ≠ 0
    exact absurd (by decide) h13
set_option maxHeartbeats 4000000 in
theorem fmt_nil {E w : World} {R : List Hp} (hH : Has E w [R]) (hg : CellsAt R 0 0 nibV) :
    Calls Tryz.prog 22 #[(.pointer none)] w fun e w' => e = .returned (.tuple #[.pointer none, .int .i64 1]) ∧ Has E w' [R] := by
  refine c_enter (args := [(.pointer none)]) Tryz.func22 rfl Tryz.ntmps22 (by simp) ?_
  refine wp_seq_k fun K1 hK1 => ?_
  refine c_region ?_
  refine s_op (o_assign (v := (.pointer none)) rfl ?_)
  refine s_op (o_assign (v := (.int .i64 0)) rfl ?_)
  refine s_nil ?_
  refine t_norm (hK1 _ _ ?_)
  refine wp_seq_k fun K2 hK2 => ?_
  refine c_region ?_
  refine s_op (o_move (v := (.pointer none)) rfl ?_)
  refine s_op (o_sight (v := (.agg #[(.int .i64 0), (.int .i64 0), (.int .i64 0), (.int .i64 0), (.int .i64 0)])) (fun _ => by kernel_rfl) ?_)
  refine s_op (o_callf (vs := #[(.pointer none), (.int .i64 0), (.agg #[(.int .i64 0), (.int .i64 0), (.int .i64 0), (.int .i64 0), (.int .i64 0)])]) ca26 rfl (args3 rfl rfl rfl) (hsave_nil hH.all (hg.mono (seg_sub 0 rfl)) 0 (h := (Hd.mk 0 0 0 0 0))) ?_)
  rintro _ w5 ⟨rfl, hX3⟩
  refine ⟨_, rfl, ?_⟩
  have hH4 := hX3.of_all
  refine s_op (o_move (v := (.tuple #[(.agg #[(.int .i64 hdZ.seq), (.int .i64 hdZ.ep), (.int .i64 hdZ.cut), (.int .i64 hdZ.st), (.int .i64 hdZ.mrk)]), (.int .i64 (1 : Int))])) rfl ?_)
  refine s_op (o_extract (v := (.agg #[(.int .i64 hdZ.seq), (.int .i64 hdZ.ep), (.int .i64 hdZ.cut), (.int .i64 hdZ.st), (.int .i64 hdZ.mrk)])) rfl rfl ?_)
  refine s_op (o_extract (v := (.int .i64 (1 : Int))) rfl rfl ?_)
  refine s_op (o_alloc (cs := #[(.int .i64 0), (.int .i64 0), (.int .i64 0), (.int .i64 0), (.int .i64 0)]) ti27 rfl hH4 fun b6 w7 hH8 => ?_)
  refine s_eff (o_storeN (vs := [(.int .i64 hdZ.seq), (.int .i64 hdZ.ep), (.int .i64 hdZ.cut), (.int .i64 hdZ.st), (.int .i64 hdZ.mrk)]) (c' := #[(.int .i64 hdZ.seq), (.int .i64 hdZ.ep), (.int .i64 hdZ.cut), (.int .i64 hdZ.st), (.int .i64 hdZ.mrk)]) ti27 rfl rfl rfl rfl (by intro u hu; simp only [List.mem_cons, List.not_mem_nil, or_false] at hu; rcases hu with rfl | rfl | rfl | rfl | rfl <;> first | rfl) (by simp) (by kernel_rfl) (hH8.front 0 rfl) fun w9 hH10 => ?_)
  refine s_op (o_assign (v := (.int .i64 (1 : Int))) rfl ?_)
  refine s_nil ?_
  refine t_norm (hK2 _ _ ?_)
  refine wp_seq_k fun K11 hK11 => ?_
  refine wp_seq_k fun K12 hK12 => ?_
  refine c_region ?_
  refine s_op (o_move (v := (.int .i64 (1 : Int))) rfl ?_)
  refine s_op (o_neq (a := (1 : Int)) (b := 0) rfl rfl ?_)
  refine s_nil ?_
  refine t_norm (hK12 _ _ ?_)
  refine c_cond rfl (fun h13 => ?_) (fun h13 => ?_)
  · -- (1 : Int) ≠ 0
    refine wp_seq_k fun K14 hK14 => ?_
    refine c_region ?_
    refine s_op (o_move (v := (.int .i64 (1 : Int))) rfl ?_)
    refine s_op (o_assign (v := (.pointer none)) rfl ?_)
    refine s_op (o_assign (v := (.int .i64 (1 : Int))) rfl ?_)
    refine s_nil ?_
    refine t_norm (hK14 _ _ ?_)
    refine wp_ret ?_
    refine t_ret (c_ret2 Tryz.results22  (v := (.pointer none)) rfl (x := (.int .i64 (1 : Int))) rfl ?_)
    have hH15 : Has E w9 [R] := (hH10.front 1 rfl).first 1 rfl
    exact ⟨rfl, hH15⟩
  · -- not: (1 : Int) ≠ 0
    exact absurd (by decide) h13
end Go.Q
namespace Go.Q
open Go.Proofs
set_option linter.unusedVariables false
set_option maxRecDepth 100000
attribute [local irreducible] wpList OK Code.wp
set_option maxHeartbeats 4000000 in
theorem fmt_ok {E w : World} {R sg : List Hp} {pb db : Nat} {p : Pw} {la : List Bs} (hH : Has E w [sg, [Hp.one pb (.cells #[(.bool p.off), (.bool p.armed), (.int .i64 p.left), (.int .i64 p.uses)] 78 (0, 0))], R]) (hd : DevAt pb sg db la []) (hg : CellsAt R 0 0 nibV) (hp : PwOk p) (hq : PwOk (useS p)) (hla : la.length ≤ 4096) (hT : svTry la.length 0 (Hd.mk 0 0 0 0 0)) (hb : useB p = true) (hb2 : useB (useS p) = true) :
    Calls Tryz.prog 22 #[(.pointer (some ⟨db, 0, none⟩))] w fun e w' => ∃ mb sg', e = .returned (.tuple #[.pointer (some ⟨mb, 0, none⟩), .int .i64 0]) ∧ DevAt pb sg' db (la.set (svN 0 (Hd.mk 0 0 0 0 0)).toNat (hdL (hdUp (Hd.mk 0 0 0 0 0)))) [] ∧ Has E w' [[Hp.one mb (.cells #[(.int .i64 (hdUp (Hd.mk 0 0 0 0 0)).st), (.int .i64 (hdUp (Hd.mk 0 0 0 0 0)).cut), (.int .i64 (hdUp (Hd.mk 0 0 0 0 0)).seq), (.int .i64 (hdUp (Hd.mk 0 0 0 0 0)).ep), (.int .i64 (hdUp (Hd.mk 0 0 0 0 0)).cut), (.int .i64 (hdUp (Hd.mk 0 0 0 0 0)).st), (.int .i64 (hdUp (Hd.mk 0 0 0 0 0)).mrk), (.pointer (some ⟨db, 0, none⟩))] 95 (0, 0))], sg', [Hp.one pb (.cells #[(.bool (useS (useS p)).off), (.bool (useS (useS p)).armed), (.int .i64 (useS (useS p)).left), (.int .i64 (useS (useS p)).uses)] 78 (0, 0))], R] := by
  refine c_enter (args := [(.pointer (some ⟨db, 0, none⟩))]) Tryz.func22 rfl Tryz.ntmps22 (by simp) ?_
  refine wp_seq_k fun K1 hK1 => ?_
  refine c_region ?_
  refine s_op (o_assign (v := (.pointer none)) rfl ?_)
  refine s_op (o_assign (v := (.int .i64 0)) rfl ?_)
  refine s_nil ?_
  refine t_norm (hK1 _ _ ?_)
  refine wp_seq_k fun K2 hK2 => ?_
  refine c_region ?_
  refine s_op (o_move (v := (.pointer (some ⟨db, 0, none⟩))) rfl ?_)
  refine s_op (o_sight (v := (.agg #[(.int .i64 0), (.int .i64 0), (.int .i64 0), (.int .i64 0), (.int .i64 0)])) (fun _ => by kernel_rfl) ?_)
  refine s_op (o_callf (vs := #[(.pointer (some ⟨db, 0, none⟩)), (.int .i64 0), (.agg #[(.int .i64 0), (.int .i64 0), (.int .i64 0), (.int .i64 0), (.int .i64 0)])]) ca26 rfl (args3 rfl rfl rfl) (hsave_ok (p := p) (la := la) ((hH.front 1 rfl).front 1 rfl).all2 hd (hg.mono (seg_sub 0 rfl)) hp hq hla (x := 0) (h := (Hd.mk 0 0 0 0 0)) hT hb hb2) ?_)
  rintro _ w7 ⟨sg3, rfl, hd4, hX5⟩
  refine ⟨_, rfl, ?_⟩
  have hH6 : Has E w7 [sg3, [Hp.one pb (.cells #[(.bool (useS (useS p)).off), (.bool (useS (useS p)).armed), (.int .i64 (useS (useS p)).left), (.int .i64 (useS (useS p)).uses)] 78 (0, 0))], R] := hX5.of_all2
  refine s_op (o_move (v := (.tuple #[(.agg #[(.int .i64 (hdUp (Hd.mk 0 0 0 0 0)).seq), (.int .i64 (hdUp (Hd.mk 0 0 0 0 0)).ep), (.int .i64 (hdUp (Hd.mk 0 0 0 0 0)).cut), (.int .i64 (hdUp (Hd.mk 0 0 0 0 0)).st), (.int .i64 (hdUp (Hd.mk 0 0 0 0 0)).mrk)]), (.int .i64 (0 : Int))])) rfl ?_)
  refine s_op (o_extract (v := (.agg #[(.int .i64 (hdUp (Hd.mk 0 0 0 0 0)).seq), (.int .i64 (hdUp (Hd.mk 0 0 0 0 0)).ep), (.int .i64 (hdUp (Hd.mk 0 0 0 0 0)).cut), (.int .i64 (hdUp (Hd.mk 0 0 0 0 0)).st), (.int .i64 (hdUp (Hd.mk 0 0 0 0 0)).mrk)])) rfl rfl ?_)
  refine s_op (o_extract (v := (.int .i64 (0 : Int))) rfl rfl ?_)
  refine s_op (o_alloc (cs := #[(.int .i64 0), (.int .i64 0), (.int .i64 0), (.int .i64 0), (.int .i64 0)]) ti27 rfl hH6 fun b8 w9 hH10 => ?_)
  refine s_eff (o_storeN (vs := [(.int .i64 (hdUp (Hd.mk 0 0 0 0 0)).seq), (.int .i64 (hdUp (Hd.mk 0 0 0 0 0)).ep), (.int .i64 (hdUp (Hd.mk 0 0 0 0 0)).cut), (.int .i64 (hdUp (Hd.mk 0 0 0 0 0)).st), (.int .i64 (hdUp (Hd.mk 0 0 0 0 0)).mrk)]) (c' := #[(.int .i64 (hdUp (Hd.mk 0 0 0 0 0)).seq), (.int .i64 (hdUp (Hd.mk 0 0 0 0 0)).ep), (.int .i64 (hdUp (Hd.mk 0 0 0 0 0)).cut), (.int .i64 (hdUp (Hd.mk 0 0 0 0 0)).st), (.int .i64 (hdUp (Hd.mk 0 0 0 0 0)).mrk)]) ti27 rfl rfl rfl rfl (by intro u hu; simp only [List.mem_cons, List.not_mem_nil, or_false] at hu; rcases hu with rfl | rfl | rfl | rfl | rfl <;> first | rfl) (by simp) (by kernel_rfl) (hH10.front 0 rfl) fun w11 hH12 => ?_)
  refine s_op (o_assign (v := (.int .i64 (0 : Int))) rfl ?_)
  refine s_nil ?_
  refine t_norm (hK2 _ _ ?_)
  refine wp_seq_k fun K13 hK13 => ?_
  refine wp_seq_k fun K14 hK14 => ?_
  refine c_region ?_
  refine s_op (o_move (v := (.int .i64 (0 : Int))) rfl ?_)
  refine s_op (o_neq (a := (0 : Int)) (b := 0) rfl rfl ?_)
  refine s_nil ?_
  refine t_norm (hK14 _ _ ?_)
  refine c_cond rfl (fun h15 => ?_) (fun h15 => ?_)
  · -- (0 : Int) ≠ 0
    exact absurd rfl h15
  · -- not: (0 : Int) ≠ 0
    refine wp_skip ?_
    refine t_norm (hK13 _ _ ?_)
    refine wp_seq_k fun K16 hK16 => ?_
    refine c_region ?_
    refine s_op (o_move (v := (.pointer (some ⟨db, 0, none⟩))) rfl ?_)
    refine s_op (o_loadN (cs := [(.int .i64 (hdUp (Hd.mk 0 0 0 0 0)).seq), (.int .i64 (hdUp (Hd.mk 0 0 0 0 0)).ep), (.int .i64 (hdUp (Hd.mk 0 0 0 0 0)).cut), (.int .i64 (hdUp (Hd.mk 0 0 0 0 0)).st), (.int .i64 (hdUp (Hd.mk 0 0 0 0 0)).mrk)]) Tryz.underlying27 rfl ti27 rfl hH12 (seg_sub 0 rfl) (CellsAt.one rfl) ?_)
    refine s_op (o_callf (vs := #[(.pointer (some ⟨db, 0, none⟩)), (.agg #[(.int .i64 (hdUp (Hd.mk 0 0 0 0 0)).seq), (.int .i64 (hdUp (Hd.mk 0 0 0 0 0)).ep), (.int .i64 (hdUp (Hd.mk 0 0 0 0 0)).cut), (.int .i64 (hdUp (Hd.mk 0 0 0 0 0)).st), (.int .i64 (hdUp (Hd.mk 0 0 0 0 0)).mrk)])]) ca48 rfl (args2 rfl rfl) (pat_c hH12.all db (hdUp (Hd.mk 0 0 0 0 0))) ?_)
    rintro _ w20 ⟨mb17, rfl, hX18⟩
    refine ⟨_, rfl, ?_⟩
    have hH19 : Has E w20 [[Hp.one mb17 (.cells #[(.int .i64 (hdUp (Hd.mk 0 0 0 0 0)).st), (.int .i64 (hdUp (Hd.mk 0 0 0 0 0)).cut), (.int .i64 (hdUp (Hd.mk 0 0 0 0 0)).seq), (.int .i64 (hdUp (Hd.mk 0 0 0 0 0)).ep), (.int .i64 (hdUp (Hd.mk 0 0 0 0 0)).cut), (.int .i64 (hdUp (Hd.mk 0 0 0 0 0)).st), (.int .i64 (hdUp (Hd.mk 0 0 0 0 0)).mrk), (.pointer (some ⟨db, 0, none⟩))] 95 (0, 0))], [Hp.one b8 (.cells #[(.int .i64 (hdUp (Hd.mk 0 0 0 0 0)).seq), (.int .i64 (hdUp (Hd.mk 0 0 0 0 0)).ep), (.int .i64 (hdUp (Hd.mk 0 0 0 0 0)).cut), (.int .i64 (hdUp (Hd.mk 0 0 0 0 0)).st), (.int .i64 (hdUp (Hd.mk 0 0 0 0 0)).mrk)] 27 (0, 0))], sg3, [Hp.one pb (.cells #[(.bool (useS (useS p)).off), (.bool (useS (useS p)).armed), (.int .i64 (useS (useS p)).left), (.int .i64 (useS (useS p)).uses)] 78 (0, 0))], R] := hX18.of_all1
    refine s_op (o_assign (v := (.pointer (some ⟨mb17, 0, none⟩))) rfl ?_)
    refine s_op (o_assign (v := (.int .i64 0)) rfl ?_)
    refine s_nil ?_
    refine t_norm (hK16 _ _ ?_)
    refine wp_ret ?_
    refine c_ret2 Tryz.results22  (v := (.pointer (some ⟨mb17, 0, none⟩))) rfl (x := (.int .i64 0)) rfl ?_
    have hH21 : Has E w20 [[Hp.one mb17 (.cells #[(.int .i64 (hdUp (Hd.mk 0 0 0 0 0)).st), (.int .i64 (hdUp (Hd.mk 0 0 0 0 0)).cut), (.int .i64 (hdUp (Hd.mk 0 0 0 0 0)).seq), (.int .i64 (hdUp (Hd.mk 0 0 0 0 0)).ep), (.int .i64 (hdUp (Hd.mk 0 0 0 0 0)).cut), (.int .i64 (hdUp (Hd.mk 0 0 0 0 0)).st), (.int .i64 (hdUp (Hd.mk 0 0 0 0 0)).mrk), (.pointer (some ⟨db, 0, none⟩))] 95 (0, 0))], sg3, [Hp.one pb (.cells #[(.bool (useS (useS p)).off), (.bool (useS (useS p)).armed), (.int .i64 (useS (useS p)).left), (.int .i64 (useS (useS p)).uses)] 78 (0, 0))], R] := ((((hH19.front 4 rfl).front 4 rfl).front 4 rfl).front 3 rfl).first 4 rfl
    exact ⟨_, _, rfl, hd4, hH21⟩
set_option maxHeartbeats 4000000 in
theorem open_no {E w : World} {R sg : List Hp} {pb db : Nat} {p : Pw} {la : List Bs} (hH : Has E w [sg, [Hp.one pb (.cells #[(.bool p.off), (.bool p.armed), (.int .i64 p.left), (.int .i64 p.uses)] 78 (0, 0))], R]) (hd : DevAt pb sg db la []) (hg : CellsAt R 0 0 nibV) (h64 : Full64 la) (hla : la.length ≤ 4096) {n : Int} (hn : ldE p la 0 = n) (hn0 : n ≠ 0) :
    Calls Tryz.prog 23 #[(.pointer (some ⟨db, 0, none⟩))] w fun e w' => e = .returned (.tuple #[.pointer none, .int .i64 n]) ∧ Has E w' [sg, [Hp.one pb (.cells #[(.bool p.off), (.bool p.armed), (.int .i64 p.left), (.int .i64 p.uses)] 78 (0, 0))], R] := by
  refine c_enter (args := [(.pointer (some ⟨db, 0, none⟩))]) Tryz.func23 rfl Tryz.ntmps23 (by simp) ?_
  refine wp_seq_k fun K1 hK1 => ?_
  refine c_region ?_
  refine s_op (o_assign (v := (.pointer none)) rfl ?_)
  refine s_op (o_assign (v := (.int .i64 0)) rfl ?_)
  refine s_nil ?_
  refine t_norm (hK1 _ _ ?_)
  refine wp_seq_k fun K2 hK2 => ?_
  refine c_region ?_
  refine s_op (o_move (v := (.pointer (some ⟨db, 0, none⟩))) rfl ?_)
  refine s_op (o_callf (vs := #[(.pointer (some ⟨db, 0, none⟩)), (.int .i64 0)]) ca19 rfl (args2 rfl rfl) (hload_c (p := p) (la := la) ((hH.front 1 rfl).front 1 rfl).all2 hd (hg.mono (seg_sub 0 rfl)) h64 hla 0) ?_)
  rintro _ w5 ⟨rfl, hX3⟩
  refine ⟨_, rfl, ?_⟩
  have hH4 : Has E w5 [sg, [Hp.one pb (.cells #[(.bool p.off), (.bool p.armed), (.int .i64 p.left), (.int .i64 p.uses)] 78 (0, 0))], R] := hX3.of_all2
  refine s_op (o_move (v := (.tuple #[(.agg #[(.int .i64 (ldH p la 0).seq), (.int .i64 (ldH p la 0).ep), (.int .i64 (ldH p la 0).cut), (.int .i64 (ldH p la 0).st), (.int .i64 (ldH p la 0).mrk)]), (.int .i64 (ldE p la 0))])) rfl ?_)
  refine s_op (o_extract (v := (.agg #[(.int .i64 (ldH p la 0).seq), (.int .i64 (ldH p la 0).ep), (.int .i64 (ldH p la 0).cut), (.int .i64 (ldH p la 0).st), (.int .i64 (ldH p la 0).mrk)])) rfl rfl ?_)
  refine s_op (o_extract (v := (.int .i64 (ldE p la 0))) rfl rfl ?_)
  refine s_op (o_alloc (cs := #[(.int .i64 0), (.int .i64 0), (.int .i64 0), (.int .i64 0), (.int .i64 0)]) ti27 rfl hH4 fun b6 w7 hH8 => ?_)
  refine s_eff (o_storeN (vs := [(.int .i64 (ldH p la 0).seq), (.int .i64 (ldH p la 0).ep), (.int .i64 (ldH p la 0).cut), (.int .i64 (ldH p la 0).st), (.int .i64 (ldH p la 0).mrk)]) (c' := #[(.int .i64 (ldH p la 0).seq), (.int .i64 (ldH p la 0).ep), (.int .i64 (ldH p la 0).cut), (.int .i64 (ldH p la 0).st), (.int .i64 (ldH p la 0).mrk)]) ti27 rfl rfl rfl rfl (by intro u hu; simp only [List.mem_cons, List.not_mem_nil, or_false] at hu; rcases hu with rfl | rfl | rfl | rfl | rfl <;> first | rfl) (by simp) (by kernel_rfl) (hH8.front 0 rfl) fun w9 hH10 => ?_)
  refine s_op (o_assign (v := (.int .i64 (ldE p la 0))) rfl ?_)
  refine s_nil ?_
  refine t_norm (hK2 _ _ ?_)
  refine wp_seq_k fun K11 hK11 => ?_
  refine wp_block ?_
  refine wp_seq_k fun K12 hK12 => ?_
  refine c_region ?_
  refine s_op (o_move (v := (.int .i64 (ldE p la 0))) rfl ?_)
  refine s_op (o_neq (a := ldE p la 0) (b := 0) rfl rfl ?_)
  refine s_op (o_assign (v := (.bool (decide (ldE p la 0 ≠ 0)))) rfl ?_)
  refine s_nil ?_
  refine t_norm (hK12 _ _ ?_)
  refine c_cond rfl (fun h13 => ?_) (fun h13 => ?_)
  · -- ldE p la 0 ≠ 0
    refine wp_seq_k fun K14 hK14 => ?_
    refine c_region ?_
    refine s_op (o_move (v := (.int .i64 (ldE p la 0))) rfl ?_)
    refine s_op (o_assign (v := (.pointer none)) rfl ?_)
    refine s_op (o_assign (v := (.int .i64 (ldE p la 0))) rfl ?_)
    refine s_nil ?_
    refine t_norm (hK14 _ _ ?_)
    refine wp_ret ?_
    refine b_ret (t_ret (c_ret2 Tryz.results23  (v := (.pointer none)) rfl (x := (.int .i64 (ldE p la 0))) rfl ?_))
    have hH15 : Has E w9 [sg, [Hp.one pb (.cells #[(.bool p.off), (.bool p.armed), (.int .i64 p.left), (.int .i64 p.uses)] 78 (0, 0))], R] := (((hH10.front 3 rfl).front 3 rfl).front 3 rfl).first 3 rfl
    exact ⟨by first | rfl | rw [hn], hH15⟩
  · -- not: ldE p la 0 ≠ 0
    exact absurd (by rw [hn]; exact hn0) h13
set_option maxHeartbeats 4000000 in
theorem open_bad {E w : World} {R sg : List Hp} {pb db : Nat} {p : Pw} {la : List Bs} (hH : Has E w [sg, [Hp.one pb (.cells #[(.bool p.off), (.bool p.armed), (.int .i64 p.left), (.int .i64 p.uses)] 78 (0, 0))], R]) (hd : DevAt pb sg db la []) (hg : CellsAt R 0 0 nibV) (h64 : Full64 la) (hla : la.length ≤ 4096) {h : Hd} (hh : ldH p la 0 = h) (hn : ldE p la 0 = 0) (hk : h.ep ≠ 0 ∨ h.mrk ≠ 0) :
    Calls Tryz.prog 23 #[(.pointer (some ⟨db, 0, none⟩))] w fun e w' => e = .returned (.tuple #[.pointer none, .int .i64 9]) ∧ Has E w' [sg, [Hp.one pb (.cells #[(.bool p.off), (.bool p.armed), (.int .i64 p.left), (.int .i64 p.uses)] 78 (0, 0))], R] := by
  refine c_enter (args := [(.pointer (some ⟨db, 0, none⟩))]) Tryz.func23 rfl Tryz.ntmps23 (by simp) ?_
  refine wp_seq_k fun K1 hK1 => ?_
  refine c_region ?_
  refine s_op (o_assign (v := (.pointer none)) rfl ?_)
  refine s_op (o_assign (v := (.int .i64 0)) rfl ?_)
  refine s_nil ?_
  refine t_norm (hK1 _ _ ?_)
  refine wp_seq_k fun K2 hK2 => ?_
  refine c_region ?_
  refine s_op (o_move (v := (.pointer (some ⟨db, 0, none⟩))) rfl ?_)
  refine s_op (o_callf (vs := #[(.pointer (some ⟨db, 0, none⟩)), (.int .i64 0)]) ca19 rfl (args2 rfl rfl) (hload_c (p := p) (la := la) ((hH.front 1 rfl).front 1 rfl).all2 hd (hg.mono (seg_sub 0 rfl)) h64 hla 0) ?_)
  rintro _ w5 ⟨rfl, hX3⟩
  refine ⟨_, rfl, ?_⟩
  have hH4 : Has E w5 [sg, [Hp.one pb (.cells #[(.bool p.off), (.bool p.armed), (.int .i64 p.left), (.int .i64 p.uses)] 78 (0, 0))], R] := hX3.of_all2
  refine s_op (o_move (v := (.tuple #[(.agg #[(.int .i64 (ldH p la 0).seq), (.int .i64 (ldH p la 0).ep), (.int .i64 (ldH p la 0).cut), (.int .i64 (ldH p la 0).st), (.int .i64 (ldH p la 0).mrk)]), (.int .i64 (ldE p la 0))])) rfl ?_)
  refine s_op (o_extract (v := (.agg #[(.int .i64 (ldH p la 0).seq), (.int .i64 (ldH p la 0).ep), (.int .i64 (ldH p la 0).cut), (.int .i64 (ldH p la 0).st), (.int .i64 (ldH p la 0).mrk)])) rfl rfl ?_)
  refine s_op (o_extract (v := (.int .i64 (ldE p la 0))) rfl rfl ?_)
  refine s_op (o_alloc (cs := #[(.int .i64 0), (.int .i64 0), (.int .i64 0), (.int .i64 0), (.int .i64 0)]) ti27 rfl hH4 fun b6 w7 hH8 => ?_)
  refine s_eff (o_storeN (vs := [(.int .i64 (ldH p la 0).seq), (.int .i64 (ldH p la 0).ep), (.int .i64 (ldH p la 0).cut), (.int .i64 (ldH p la 0).st), (.int .i64 (ldH p la 0).mrk)]) (c' := #[(.int .i64 (ldH p la 0).seq), (.int .i64 (ldH p la 0).ep), (.int .i64 (ldH p la 0).cut), (.int .i64 (ldH p la 0).st), (.int .i64 (ldH p la 0).mrk)]) ti27 rfl rfl rfl rfl (by intro u hu; simp only [List.mem_cons, List.not_mem_nil, or_false] at hu; rcases hu with rfl | rfl | rfl | rfl | rfl <;> first | rfl) (by simp) (by kernel_rfl) (hH8.front 0 rfl) fun w9 hH10 => ?_)
  refine s_op (o_assign (v := (.int .i64 (ldE p la 0))) rfl ?_)
  refine s_nil ?_
  refine t_norm (hK2 _ _ ?_)
  refine wp_seq_k fun K11 hK11 => ?_
  refine wp_block ?_
  refine wp_seq_k fun K12 hK12 => ?_
  refine c_region ?_
  refine s_op (o_move (v := (.int .i64 (ldE p la 0))) rfl ?_)
  refine s_op (o_neq (a := ldE p la 0) (b := 0) rfl rfl ?_)
  refine s_op (o_assign (v := (.bool (decide (ldE p la 0 ≠ 0)))) rfl ?_)
  refine s_nil ?_
  refine t_norm (hK12 _ _ ?_)
  refine c_cond rfl (fun h13 => ?_) (fun h13 => ?_)
  · -- ldE p la 0 ≠ 0
    exact absurd hn h13
  · -- not: ldE p la 0 ≠ 0
    refine wp_seq_k fun K14 hK14 => ?_
    refine c_region ?_
    refine s_op (o_fieldAddr (k := 1) (fun _ => by kernel_rfl) rfl ?_)
    refine s_op (o_load1 (v := (.int .i64 (ldH p la 0).ep)) Tryz.underlying3 rfl rfl hH10 (seg_sub 0 rfl) (CellsAt.one rfl) ?_)
    refine s_op (o_neq (a := (ldH p la 0).ep) (b := 0) rfl rfl ?_)
    refine s_op (o_move (v := (.bool (decide ((ldH p la 0).ep ≠ 0)))) rfl ?_)
    by_cases h15 : (ldH p la 0).ep ≠ 0
    · -- (ldH p la 0).ep ≠ 0
      refine s_off (b' := true) 19 rfl (congrArg Value.bool (decide_eq_true h15)) rfl ?_
      refine s_off (b' := true) 19 rfl (congrArg Value.bool (decide_eq_true h15)) rfl ?_
      refine s_off (b' := true) 19 rfl (congrArg Value.bool (decide_eq_true h15)) rfl ?_
      refine s_op (o_pick_t (u := (.bool true)) ((rfl : _ = _).trans (congrArg Value.bool (decide_eq_true h15))) rfl ?_)
      refine s_op (o_assign (v := (.bool true)) rfl ?_)
      refine s_nil ?_
      refine t_norm (hK14 _ _ ?_)
      refine c_true rfl rfl ?_
      refine wp_seq_k fun K16 hK16 => ?_
      refine c_region ?_
      refine s_op (o_assign (v := (.pointer none)) rfl ?_)
      refine s_op (o_assign (v := (.int .i64 9)) rfl ?_)
      refine s_nil ?_
      refine t_norm (hK16 _ _ ?_)
      refine wp_ret ?_
      refine b_ret (t_ret (c_ret2 Tryz.results23  (v := (.pointer none)) rfl (x := (.int .i64 9)) rfl ?_))
      have hH17 : Has E w9 [sg, [Hp.one pb (.cells #[(.bool p.off), (.bool p.armed), (.int .i64 p.left), (.int .i64 p.uses)] 78 (0, 0))], R] := (((hH10.front 3 rfl).front 3 rfl).front 3 rfl).first 3 rfl
      exact ⟨by first | rfl | rw [hn], hH17⟩
    · -- not: (ldH p la 0).ep ≠ 0
      refine s_on 19 rfl (congrArg Value.bool (decide_eq_false h15)) (o_fieldAddr (k := 4) (fun _ => by kernel_rfl) rfl ?_)
      refine s_on 19 rfl (congrArg Value.bool (decide_eq_false h15)) (o_load1 (v := (.int .i64 (ldH p la 0).mrk)) Tryz.underlying3 rfl rfl hH10 (seg_sub 0 rfl) (CellsAt.one rfl) ?_)
      refine s_on 19 rfl (congrArg Value.bool (decide_eq_false h15)) (o_neq (a := (ldH p la 0).mrk) (b := 0) rfl rfl ?_)
      refine s_op (o_pick_f (u := (.bool (decide ((ldH p la 0).mrk ≠ 0)))) ((rfl : _ = _).trans (congrArg Value.bool (decide_eq_false h15))) rfl ?_)
      refine s_op (o_assign (v := (.bool (decide ((ldH p la 0).mrk ≠ 0)))) rfl ?_)
      refine s_nil ?_
      refine t_norm (hK14 _ _ ?_)
      refine c_cond rfl (fun h18 => ?_) (fun h18 => ?_)
      · -- (ldH p la 0).mrk ≠ 0
        refine wp_seq_k fun K19 hK19 => ?_
        refine c_region ?_
        refine s_op (o_assign (v := (.pointer none)) rfl ?_)
        refine s_op (o_assign (v := (.int .i64 9)) rfl ?_)
        refine s_nil ?_
        refine t_norm (hK19 _ _ ?_)
        refine wp_ret ?_
        refine b_ret (t_ret (c_ret2 Tryz.results23  (v := (.pointer none)) rfl (x := (.int .i64 9)) rfl ?_))
        have hH20 : Has E w9 [sg, [Hp.one pb (.cells #[(.bool p.off), (.bool p.armed), (.int .i64 p.left), (.int .i64 p.uses)] 78 (0, 0))], R] := (((hH10.front 3 rfl).front 3 rfl).front 3 rfl).first 3 rfl
        exact ⟨by first | rfl | rw [hn], hH20⟩
      · -- not: (ldH p la 0).mrk ≠ 0
        exact absurd hk (by rw [← hh]; omega)
set_option maxHeartbeats 4000000 in
theorem open_yes {E w : World} {R sg : List Hp} {pb db : Nat} {p : Pw} {la : List Bs} (hH : Has E w [sg, [Hp.one pb (.cells #[(.bool p.off), (.bool p.armed), (.int .i64 p.left), (.int .i64 p.uses)] 78 (0, 0))], R]) (hd : DevAt pb sg db la []) (hg : CellsAt R 0 0 nibV) (h64 : Full64 la) (hla : la.length ≤ 4096) {h : Hd} (hh : ldH p la 0 = h) (hn : ldE p la 0 = 0) (hk1 : h.ep = 0) (hk2 : h.mrk = 0) :
    Calls Tryz.prog 23 #[(.pointer (some ⟨db, 0, none⟩))] w fun e w' => ∃ mb, e = .returned (.tuple #[.pointer (some ⟨mb, 0, none⟩), .int .i64 0]) ∧ Has E w' [[Hp.one mb (.cells #[(.int .i64 h.st), (.int .i64 h.cut), (.int .i64 h.seq), (.int .i64 h.ep), (.int .i64 h.cut), (.int .i64 h.st), (.int .i64 h.mrk), (.pointer (some ⟨db, 0, none⟩))] 95 (0, 0))], sg, [Hp.one pb (.cells #[(.bool p.off), (.bool p.armed), (.int .i64 p.left), (.int .i64 p.uses)] 78 (0, 0))], R] := by
  refine c_enter (args := [(.pointer (some ⟨db, 0, none⟩))]) Tryz.func23 rfl Tryz.ntmps23 (by simp) ?_
  refine wp_seq_k fun K1 hK1 => ?_
  refine c_region ?_
  refine s_op (o_assign (v := (.pointer none)) rfl ?_)
  refine s_op (o_assign (v := (.int .i64 0)) rfl ?_)
  refine s_nil ?_
  refine t_norm (hK1 _ _ ?_)
  refine wp_seq_k fun K2 hK2 => ?_
  refine c_region ?_
  refine s_op (o_move (v := (.pointer (some ⟨db, 0, none⟩))) rfl ?_)
  refine s_op (o_callf (vs := #[(.pointer (some ⟨db, 0, none⟩)), (.int .i64 0)]) ca19 rfl (args2 rfl rfl) (hload_c (p := p) (la := la) ((hH.front 1 rfl).front 1 rfl).all2 hd (hg.mono (seg_sub 0 rfl)) h64 hla 0) ?_)
  rintro _ w5 ⟨rfl, hX3⟩
  refine ⟨_, rfl, ?_⟩
  have hH4 : Has E w5 [sg, [Hp.one pb (.cells #[(.bool p.off), (.bool p.armed), (.int .i64 p.left), (.int .i64 p.uses)] 78 (0, 0))], R] := hX3.of_all2
  refine s_op (o_move (v := (.tuple #[(.agg #[(.int .i64 (ldH p la 0).seq), (.int .i64 (ldH p la 0).ep), (.int .i64 (ldH p la 0).cut), (.int .i64 (ldH p la 0).st), (.int .i64 (ldH p la 0).mrk)]), (.int .i64 (ldE p la 0))])) rfl ?_)
  refine s_op (o_extract (v := (.agg #[(.int .i64 (ldH p la 0).seq), (.int .i64 (ldH p la 0).ep), (.int .i64 (ldH p la 0).cut), (.int .i64 (ldH p la 0).st), (.int .i64 (ldH p la 0).mrk)])) rfl rfl ?_)
  refine s_op (o_extract (v := (.int .i64 (ldE p la 0))) rfl rfl ?_)
  refine s_op (o_alloc (cs := #[(.int .i64 0), (.int .i64 0), (.int .i64 0), (.int .i64 0), (.int .i64 0)]) ti27 rfl hH4 fun b6 w7 hH8 => ?_)
  refine s_eff (o_storeN (vs := [(.int .i64 (ldH p la 0).seq), (.int .i64 (ldH p la 0).ep), (.int .i64 (ldH p la 0).cut), (.int .i64 (ldH p la 0).st), (.int .i64 (ldH p la 0).mrk)]) (c' := #[(.int .i64 (ldH p la 0).seq), (.int .i64 (ldH p la 0).ep), (.int .i64 (ldH p la 0).cut), (.int .i64 (ldH p la 0).st), (.int .i64 (ldH p la 0).mrk)]) ti27 rfl rfl rfl rfl (by intro u hu; simp only [List.mem_cons, List.not_mem_nil, or_false] at hu; rcases hu with rfl | rfl | rfl | rfl | rfl <;> first | rfl) (by simp) (by kernel_rfl) (hH8.front 0 rfl) fun w9 hH10 => ?_)
  refine s_op (o_assign (v := (.int .i64 (ldE p la 0))) rfl ?_)
  refine s_nil ?_
  refine t_norm (hK2 _ _ ?_)
  refine wp_seq_k fun K11 hK11 => ?_
  refine wp_block ?_
  refine wp_seq_k fun K12 hK12 => ?_
  refine c_region ?_
  refine s_op (o_move (v := (.int .i64 (ldE p la 0))) rfl ?_)
  refine s_op (o_neq (a := ldE p la 0) (b := 0) rfl rfl ?_)
  refine s_op (o_assign (v := (.bool (decide (ldE p la 0 ≠ 0)))) rfl ?_)
  refine s_nil ?_
  refine t_norm (hK12 _ _ ?_)
  refine c_cond rfl (fun h13 => ?_) (fun h13 => ?_)
  · -- ldE p la 0 ≠ 0
    exact absurd hn h13
  · -- not: ldE p la 0 ≠ 0
    refine wp_seq_k fun K14 hK14 => ?_
    refine c_region ?_
    refine s_op (o_fieldAddr (k := 1) (fun _ => by kernel_rfl) rfl ?_)
    refine s_op (o_load1 (v := (.int .i64 (ldH p la 0).ep)) Tryz.underlying3 rfl rfl hH10 (seg_sub 0 rfl) (CellsAt.one rfl) ?_)
    refine s_op (o_neq (a := (ldH p la 0).ep) (b := 0) rfl rfl ?_)
    refine s_op (o_move (v := (.bool (decide ((ldH p la 0).ep ≠ 0)))) rfl ?_)
    by_cases h15 : (ldH p la 0).ep ≠ 0
    · -- (ldH p la 0).ep ≠ 0
      exact absurd (by rw [hh]; assumption) h15
    · -- not: (ldH p la 0).ep ≠ 0
      refine s_on 19 rfl (congrArg Value.bool (decide_eq_false h15)) (o_fieldAddr (k := 4) (fun _ => by kernel_rfl) rfl ?_)
      refine s_on 19 rfl (congrArg Value.bool (decide_eq_false h15)) (o_load1 (v := (.int .i64 (ldH p la 0).mrk)) Tryz.underlying3 rfl rfl hH10 (seg_sub 0 rfl) (CellsAt.one rfl) ?_)
      refine s_on 19 rfl (congrArg Value.bool (decide_eq_false h15)) (o_neq (a := (ldH p la 0).mrk) (b := 0) rfl rfl ?_)
      refine s_op (o_pick_f (u := (.bool (decide ((ldH p la 0).mrk ≠ 0)))) ((rfl : _ = _).trans (congrArg Value.bool (decide_eq_false h15))) rfl ?_)
      refine s_op (o_assign (v := (.bool (decide ((ldH p la 0).mrk ≠ 0)))) rfl ?_)
      refine s_nil ?_
      refine t_norm (hK14 _ _ ?_)
      refine c_cond rfl (fun h16 => ?_) (fun h16 => ?_)
      · -- (ldH p la 0).mrk ≠ 0
        exact absurd (by rw [hh]; assumption) h16
      · -- not: (ldH p la 0).mrk ≠ 0
        refine wp_skip ?_
        refine b_norm ?_
        refine t_norm (hK11 _ _ ?_)
        refine wp_seq_k fun K17 hK17 => ?_
        refine c_region ?_
        refine s_op (o_move (v := (.pointer (some ⟨db, 0, none⟩))) rfl ?_)
        refine s_op (o_loadN (cs := [(.int .i64 (ldH p la 0).seq), (.int .i64 (ldH p la 0).ep), (.int .i64 (ldH p la 0).cut), (.int .i64 (ldH p la 0).st), (.int .i64 (ldH p la 0).mrk)]) Tryz.underlying27 rfl ti27 rfl hH10 (seg_sub 0 rfl) (CellsAt.one rfl) ?_)
        refine s_op (o_callf (vs := #[(.pointer (some ⟨db, 0, none⟩)), (.agg #[(.int .i64 (ldH p la 0).seq), (.int .i64 (ldH p la 0).ep), (.int .i64 (ldH p la 0).cut), (.int .i64 (ldH p la 0).st), (.int .i64 (ldH p la 0).mrk)])]) ca48 rfl (args2 rfl rfl) (pat_c hH10.all db (ldH p la 0)) ?_)
        rintro _ w21 ⟨mb18, rfl, hX19⟩
        refine ⟨_, rfl, ?_⟩
        have hH20 : Has E w21 [[Hp.one mb18 (.cells #[(.int .i64 (ldH p la 0).st), (.int .i64 (ldH p la 0).cut), (.int .i64 (ldH p la 0).seq), (.int .i64 (ldH p la 0).ep), (.int .i64 (ldH p la 0).cut), (.int .i64 (ldH p la 0).st), (.int .i64 (ldH p la 0).mrk), (.pointer (some ⟨db, 0, none⟩))] 95 (0, 0))], [Hp.one b6 (.cells #[(.int .i64 (ldH p la 0).seq), (.int .i64 (ldH p la 0).ep), (.int .i64 (ldH p la 0).cut), (.int .i64 (ldH p la 0).st), (.int .i64 (ldH p la 0).mrk)] 27 (0, 0))], sg, [Hp.one pb (.cells #[(.bool p.off), (.bool p.armed), (.int .i64 p.left), (.int .i64 p.uses)] 78 (0, 0))], R] := hX19.of_all1
        refine s_op (o_assign (v := (.pointer (some ⟨mb18, 0, none⟩))) rfl ?_)
        refine s_op (o_assign (v := (.int .i64 0)) rfl ?_)
        refine s_nil ?_
        refine t_norm (hK17 _ _ ?_)
        refine wp_ret ?_
        refine c_ret2 Tryz.results23  (v := (.pointer (some ⟨mb18, 0, none⟩))) rfl (x := (.int .i64 0)) rfl ?_
        have hH22 : Has E w21 [[Hp.one mb18 (.cells #[(.int .i64 (ldH p la 0).st), (.int .i64 (ldH p la 0).cut), (.int .i64 (ldH p la 0).seq), (.int .i64 (ldH p la 0).ep), (.int .i64 (ldH p la 0).cut), (.int .i64 (ldH p la 0).st), (.int .i64 (ldH p la 0).mrk), (.pointer (some ⟨db, 0, none⟩))] 95 (0, 0))], sg, [Hp.one pb (.cells #[(.bool p.off), (.bool p.armed), (.int .i64 p.left), (.int .i64 p.uses)] 78 (0, 0))], R] := ((((hH20.front 4 rfl).front 4 rfl).front 4 rfl).front 3 rfl).first 4 rfl
        exact ⟨mb18, rfl, by rw [← hh]; exact hH22⟩
end Go.Q
namespace Go.Q
open Go.Proofs
set_option linter.unusedVariables false
set_option maxRecDepth 100000
attribute [local irreducible] wpList OK Code.wp
set_option maxHeartbeats 4000000 in
theorem keep_ok {E w : World} {R sg : List Hp} {pb db mb : Nat} {p : Pw} {la : List Bs} {h : Hd} (hH : Has E w [sg, [Hp.one pb (.cells #[(.bool p.off), (.bool p.armed), (.int .i64 p.left), (.int .i64 p.uses)] 78 (0, 0))], [Hp.one mb (.cells #[(.int .i64 h.st), (.int .i64 h.cut), (.int .i64 h.seq), (.int .i64 h.ep), (.int .i64 h.cut), (.int .i64 h.st), (.int .i64 h.mrk), (.pointer (some ⟨db, 0, none⟩))] 95 (0, 0))], R]) (hd : DevAt pb sg db la []) (hg : CellsAt R 0 0 nibV) (hp : PwOk p) (hq : PwOk (useS p)) (hla : la.length ≤ 4096) {pl pn : Int} (hge : h.st ≤ pl ∧ h.cut ≤ pn) (hne : ¬ (pl = h.st ∧ pn = h.cut)) (hT : svTry la.length 0 (hdK h pl pn)) (hb : useB p = true) (hb2 : useB (useS p) = true) :
    Calls Tryz.prog 24 #[(.pointer (some ⟨mb, 0, none⟩)), (.agg #[(.int .i64 pl), (.int .i64 pn)])] w fun e w' => ∃ sg', e = .returned (.int .i64 0) ∧ DevAt pb sg' db (la.set (svN 0 (hdK h pl pn)).toNat (hdL (hdUp (hdK h pl pn)))) [] ∧ Has E w' [sg', [Hp.one pb (.cells #[(.bool (useS (useS p)).off), (.bool (useS (useS p)).armed), (.int .i64 (useS (useS p)).left), (.int .i64 (useS (useS p)).uses)] 78 (0, 0))], [Hp.one mb (.cells #[(.int .i64 (hdUp (hdK h pl pn)).st), (.int .i64 (hdUp (hdK h pl pn)).cut), (.int .i64 (hdUp (hdK h pl pn)).seq), (.int .i64 (hdUp (hdK h pl pn)).ep), (.int .i64 (hdUp (hdK h pl pn)).cut), (.int .i64 (hdUp (hdK h pl pn)).st), (.int .i64 (hdUp (hdK h pl pn)).mrk), (.pointer (some ⟨db, 0, none⟩))] 95 (0, 0))], R] := by
  refine c_enter (args := [(.pointer (some ⟨mb, 0, none⟩)), (.agg #[(.int .i64 pl), (.int .i64 pn)])]) Tryz.func24 rfl Tryz.ntmps24 (by simp) ?_
  refine wp_seq_k fun K1 hK1 => ?_
  refine c_region ?_
  refine s_op (o_box (cs := #[(.int .i64 pl), (.int .i64 pn)]) rfl rfl hH fun b2 w3 hH4 => ?_)
  refine s_op (o_assign (v := (.int .i64 0)) rfl ?_)
  refine s_nil ?_
  refine t_norm (hK1 _ _ ?_)
  refine wp_seq_k fun K5 hK5 => ?_
  refine wp_block ?_
  refine wp_seq_k fun K6 hK6 => ?_
  refine Rest.region mixed (by kernel_rfl) ?_
  have hH7 : Has E { w3 with drawn := w3.drawn + 1 } [[Hp.one b2 (.cells #[(.int .i64 pl), (.int .i64 pn)] 50 (0, 0))], sg, [Hp.one pb (.cells #[(.bool p.off), (.bool p.armed), (.int .i64 p.left), (.int .i64 p.uses)] 78 (0, 0))], [Hp.one mb (.cells #[(.int .i64 h.st), (.int .i64 h.cut), (.int .i64 h.seq), (.int .i64 h.ep), (.int .i64 h.cut), (.int .i64 h.st), (.int .i64 h.mrk), (.pointer (some ⟨db, 0, none⟩))] 95 (0, 0))], R] := Has0.drew hH4 _
  refine r_op 0 rfl (by kernel_rfl) (o_move (v := (.pointer (some ⟨mb, 0, none⟩))) rfl ?_)
  refine r_op 1 rfl (by kernel_rfl) (o_pnil (p := some _) Tryz.underlying51 rfl rfl ?_)
  refine r_op 2 rfl (by kernel_rfl) (o_move (v := (.bool false)) rfl ?_)
  refine Rest.phaseA (fun w_ => Has E w_ [[Hp.one b2 (.cells #[(.int .i64 pl), (.int .i64 pn)] 50 (0, 0))], [Hp.one mb (.cells #[(.int .i64 h.st), (.int .i64 h.cut), (.int .i64 h.seq), (.int .i64 h.ep), (.int .i64 h.cut), (.int .i64 h.st), (.int .i64 h.mrk), (.pointer (some ⟨db, 0, none⟩))] 95 (0, 0))]]) 3 11 8 rfl (by decide) (by kernel_rfl) ?_
  refine a_on 3 rfl (by kernel_rfl) 10 rfl rfl (fun w_ h_ => o_fieldAddr (k := 0) (fun _ => by kernel_rfl) rfl ⟨rfl, rfl⟩) ?_
  refine a_on 4 rfl (by kernel_rfl) 10 rfl rfl (fun w_ h_ => o_load1 (v := (.int .i64 pl)) Tryz.underlying3 rfl rfl h_ (seg_sub 0 rfl) (CellsAt.one rfl) ⟨rfl, rfl⟩) ?_
  refine a_on 5 rfl (by kernel_rfl) 10 rfl rfl (fun w_ h_ => o_move (v := (.pointer (some ⟨mb, 0, none⟩))) rfl ⟨rfl, rfl⟩) ?_
  refine a_on 6 rfl (by kernel_rfl) 10 rfl rfl (fun w_ h_ => o_nilCheck rfl ⟨rfl, rfl⟩) ?_
  refine a_on 7 rfl (by kernel_rfl) 10 rfl rfl (fun w_ h_ => o_fieldAddr (k := 0) (fun _ => by kernel_rfl) rfl ⟨rfl, rfl⟩) ?_
  refine a_on 8 rfl (by kernel_rfl) 10 rfl rfl (fun w_ h_ => o_fieldAddr (k := 0) (fun _ => by kernel_rfl) rfl ⟨rfl, rfl⟩) ?_
  refine a_on 9 rfl (by kernel_rfl) 10 rfl rfl (fun w_ h_ => o_fieldAddr (k := 0) (fun _ => by kernel_rfl) rfl ⟨rfl, rfl⟩) ?_
  refine a_on 10 rfl (by kernel_rfl) 10 rfl rfl (fun w_ h_ => o_load1 (v := (.int .i64 h.st)) Tryz.underlying3 rfl rfl h_ (seg_sub 1 rfl) (CellsAt.one rfl) ⟨rfl, rfl⟩) ?_
  have hH8 : Has E { w3 with drawn := w3.drawn + 1 } [[Hp.one b2 (.cells #[(.int .i64 pl), (.int .i64 pn)] 50 (0, 0))], [Hp.one mb (.cells #[(.int .i64 h.st), (.int .i64 h.cut), (.int .i64 h.seq), (.int .i64 h.ep), (.int .i64 h.cut), (.int .i64 h.st), (.int .i64 h.mrk), (.pointer (some ⟨db, 0, none⟩))] 95 (0, 0))]] := ((hH7.front 3 rfl).front 1 rfl).first 2 rfl
  refine a_done (by kernel_rfl) hH8 ?_
  refine r_on 11 rfl (by kernel_rfl) 10 rfl rfl (o_lss (a := pl) (b := h.st) rfl rfl ?_)
  refine r_op 12 rfl (by kernel_rfl) (o_pick_f (u := (.bool (decide (pl < h.st)))) rfl rfl ?_)
  refine r_op 13 rfl (by kernel_rfl) (o_move (v := (.bool (decide (pl < h.st)))) rfl ?_)
  refine Rest.phaseA (fun w_ => Has E w_ [[Hp.one b2 (.cells #[(.int .i64 pl), (.int .i64 pn)] 50 (0, 0))], [Hp.one mb (.cells #[(.int .i64 h.st), (.int .i64 h.cut), (.int .i64 h.seq), (.int .i64 h.ep), (.int .i64 h.cut), (.int .i64 h.st), (.int .i64 h.mrk), (.pointer (some ⟨db, 0, none⟩))] 95 (0, 0))]]) 14 22 8 rfl (by decide) (by kernel_rfl) ?_
  by_cases h9 : pl < h.st
  · -- pl < h.st
    exfalso; omega
  · -- not: pl < h.st
    refine a_on 14 rfl (by kernel_rfl) 21 rfl (congrArg Value.bool (decide_eq_false h9)) (fun w_ h_ => o_fieldAddr (k := 1) (fun _ => by kernel_rfl) rfl ⟨rfl, rfl⟩) ?_
    refine a_on 15 rfl (by kernel_rfl) 21 rfl (congrArg Value.bool (decide_eq_false h9)) (fun w_ h_ => o_load1 (v := (.int .i64 pn)) Tryz.underlying3 rfl rfl h_ (seg_sub 0 rfl) (CellsAt.one rfl) ⟨rfl, rfl⟩) ?_
    refine a_on 16 rfl (by kernel_rfl) 21 rfl (congrArg Value.bool (decide_eq_false h9)) (fun w_ h_ => o_move (v := (.pointer (some ⟨mb, 0, none⟩))) rfl ⟨rfl, rfl⟩) ?_
    refine a_on 17 rfl (by kernel_rfl) 21 rfl (congrArg Value.bool (decide_eq_false h9)) (fun w_ h_ => o_nilCheck rfl ⟨rfl, rfl⟩) ?_
    refine a_on 18 rfl (by kernel_rfl) 21 rfl (congrArg Value.bool (decide_eq_false h9)) (fun w_ h_ => o_fieldAddr (k := 0) (fun _ => by kernel_rfl) rfl ⟨rfl, rfl⟩) ?_
    refine a_on 19 rfl (by kernel_rfl) 21 rfl (congrArg Value.bool (decide_eq_false h9)) (fun w_ h_ => o_fieldAddr (k := 0) (fun _ => by kernel_rfl) rfl ⟨rfl, rfl⟩) ?_
    refine a_on 20 rfl (by kernel_rfl) 21 rfl (congrArg Value.bool (decide_eq_false h9)) (fun w_ h_ => o_fieldAddr (k := 1) (fun _ => by kernel_rfl) rfl ⟨rfl, rfl⟩) ?_
    refine a_on 21 rfl (by kernel_rfl) 21 rfl (congrArg Value.bool (decide_eq_false h9)) (fun w_ h_ => o_load1 (v := (.int .i64 h.cut)) Tryz.underlying3 rfl rfl h_ (seg_sub 1 rfl) (CellsAt.one rfl) ⟨rfl, rfl⟩) ?_
    have hH10 : Has E { w3 with drawn := w3.drawn + 1 } [[Hp.one b2 (.cells #[(.int .i64 pl), (.int .i64 pn)] 50 (0, 0))], [Hp.one mb (.cells #[(.int .i64 h.st), (.int .i64 h.cut), (.int .i64 h.seq), (.int .i64 h.ep), (.int .i64 h.cut), (.int .i64 h.st), (.int .i64 h.mrk), (.pointer (some ⟨db, 0, none⟩))] 95 (0, 0))]] := ((hH7.front 3 rfl).front 1 rfl).first 2 rfl
    refine a_done (by kernel_rfl) hH10 ?_
    refine r_on 22 rfl (by kernel_rfl) 21 rfl (congrArg Value.bool (decide_eq_false h9)) (o_lss (a := pn) (b := h.cut) rfl rfl ?_)
    refine r_op 23 rfl (by kernel_rfl) (o_pick_f (u := (.bool (decide (pn < h.cut)))) ((rfl : _ = _).trans (congrArg Value.bool (decide_eq_false h9))) rfl ?_)
    refine r_op 24 rfl (by kernel_rfl) (o_assign (v := (.bool (decide (pn < h.cut)))) rfl ?_)
    refine Rest.done (by kernel_rfl) ?_
    refine t_norm (hK6 _ _ ?_)
    refine c_cond rfl (fun h11 => ?_) (fun h11 => ?_)
    · -- pn < h.cut
      exfalso; omega
    · -- not: pn < h.cut
      refine wp_seq_k fun K12 hK12 => ?_
      refine Rest.region mixed (by kernel_rfl) ?_
      have hH13 : Has E { { w3 with drawn := w3.drawn + 1 } with drawn := { w3 with drawn := w3.drawn + 1 }.drawn + 1 } [[Hp.one b2 (.cells #[(.int .i64 pl), (.int .i64 pn)] 50 (0, 0))], sg, [Hp.one pb (.cells #[(.bool p.off), (.bool p.armed), (.int .i64 p.left), (.int .i64 p.uses)] 78 (0, 0))], [Hp.one mb (.cells #[(.int .i64 h.st), (.int .i64 h.cut), (.int .i64 h.seq), (.int .i64 h.ep), (.int .i64 h.cut), (.int .i64 h.st), (.int .i64 h.mrk), (.pointer (some ⟨db, 0, none⟩))] 95 (0, 0))], R] := Has0.drew hH7 _
      refine Rest.phaseA (fun w_ => Has E w_ [[Hp.one b2 (.cells #[(.int .i64 pl), (.int .i64 pn)] 50 (0, 0))], [Hp.one mb (.cells #[(.int .i64 h.st), (.int .i64 h.cut), (.int .i64 h.seq), (.int .i64 h.ep), (.int .i64 h.cut), (.int .i64 h.st), (.int .i64 h.mrk), (.pointer (some ⟨db, 0, none⟩))] 95 (0, 0))]]) 0 6 6 rfl (by decide) (by kernel_rfl) ?_
      refine a_op 0 rfl (by kernel_rfl) (fun w_ h_ => o_loadN (cs := [(.int .i64 pl), (.int .i64 pn)]) Tryz.underlying50 rfl ti50 rfl h_ (seg_sub 0 rfl) (CellsAt.one rfl) ⟨rfl, rfl⟩) ?_
      refine a_op 1 rfl (by kernel_rfl) (fun w_ h_ => o_move (v := (.pointer (some ⟨mb, 0, none⟩))) rfl ⟨rfl, rfl⟩) ?_
      refine a_op 2 rfl (by kernel_rfl) (fun w_ h_ => o_nilCheck rfl ⟨rfl, rfl⟩) ?_
      refine a_op 3 rfl (by kernel_rfl) (fun w_ h_ => o_fieldAddr (k := 0) (fun _ => by kernel_rfl) rfl ⟨rfl, rfl⟩) ?_
      refine a_op 4 rfl (by kernel_rfl) (fun w_ h_ => o_fieldAddr (k := 0) (fun _ => by kernel_rfl) rfl ⟨rfl, rfl⟩) ?_
      refine a_op 5 rfl (by kernel_rfl) (fun w_ h_ => o_loadN (cs := [(.int .i64 h.st), (.int .i64 h.cut)]) Tryz.underlying50 rfl ti50 rfl h_ (seg_sub 1 rfl) (CellsAt.one rfl) ⟨rfl, rfl⟩) ?_
      have hH14 : Has E { { w3 with drawn := w3.drawn + 1 } with drawn := { w3 with drawn := w3.drawn + 1 }.drawn + 1 } [[Hp.one b2 (.cells #[(.int .i64 pl), (.int .i64 pn)] 50 (0, 0))], [Hp.one mb (.cells #[(.int .i64 h.st), (.int .i64 h.cut), (.int .i64 h.seq), (.int .i64 h.ep), (.int .i64 h.cut), (.int .i64 h.st), (.int .i64 h.mrk), (.pointer (some ⟨db, 0, none⟩))] 95 (0, 0))]] := ((hH13.front 3 rfl).front 1 rfl).first 2 rfl
      refine a_done (by kernel_rfl) hH14 ?_
      refine r_op 6 rfl (by kernel_rfl) (o_eql50 pl pn h.st h.cut rfl rfl ?_)
      refine r_op 7 rfl (by kernel_rfl) (o_assign (v := (.bool (eqv50 pl pn h.st h.cut))) rfl ?_)
      refine Rest.done (by kernel_rfl) ?_
      refine t_norm (hK12 _ _ ?_)
      refine c_condb rfl (fun h15 => ?_) (fun h15 => ?_)
      · -- eqv50 pl pn h.st h.cut
        exact absurd ((eqv50_iff _ _ _ _).1 h15) hne
      · -- not: eqv50 pl pn h.st h.cut
        refine wp_skip ?_
        refine b_norm ?_
        refine t_norm (hK5 _ _ ?_)
        refine wp_seq_k fun K16 hK16 => ?_
        refine Rest.region mixed (by kernel_rfl) ?_
        have hH17 : Has E { { { w3 with drawn := w3.drawn + 1 } with drawn := { w3 with drawn := w3.drawn + 1 }.drawn + 1 } with drawn := { { w3 with drawn := w3.drawn + 1 } with drawn := { w3 with drawn := w3.drawn + 1 }.drawn + 1 }.drawn + 1 } [[Hp.one b2 (.cells #[(.int .i64 pl), (.int .i64 pn)] 50 (0, 0))], sg, [Hp.one pb (.cells #[(.bool p.off), (.bool p.armed), (.int .i64 p.left), (.int .i64 p.uses)] 78 (0, 0))], [Hp.one mb (.cells #[(.int .i64 h.st), (.int .i64 h.cut), (.int .i64 h.seq), (.int .i64 h.ep), (.int .i64 h.cut), (.int .i64 h.st), (.int .i64 h.mrk), (.pointer (some ⟨db, 0, none⟩))] 95 (0, 0))], R] := Has0.drew hH13 _
        refine Rest.phaseA (fun w_ => Has E w_ [[Hp.one b2 (.cells #[(.int .i64 pl), (.int .i64 pn)] 50 (0, 0))], [Hp.one mb (.cells #[(.int .i64 h.st), (.int .i64 h.cut), (.int .i64 h.seq), (.int .i64 h.ep), (.int .i64 h.cut), (.int .i64 h.st), (.int .i64 h.mrk), (.pointer (some ⟨db, 0, none⟩))] 95 (0, 0))]]) 0 21 21 rfl (by decide) (by kernel_rfl) ?_
        refine a_op 0 rfl (by kernel_rfl) (fun w_ h_ => o_move (v := (.pointer (some ⟨mb, 0, none⟩))) rfl ⟨rfl, rfl⟩) ?_
        refine a_op 1 rfl (by kernel_rfl) (fun w_ h_ => o_nilCheck rfl ⟨rfl, rfl⟩) ?_
        refine a_op 2 rfl (by kernel_rfl) (fun w_ h_ => o_fieldAddr (k := 7) (fun _ => by kernel_rfl) rfl ⟨rfl, rfl⟩) ?_
        refine a_op 3 rfl (by kernel_rfl) (fun w_ h_ => o_load1 (v := (.pointer (some ⟨db, 0, none⟩))) Tryz.underlying34 rfl rfl h_ (seg_sub 1 rfl) (CellsAt.one rfl) ⟨rfl, rfl⟩) ?_
        refine a_op 4 rfl (by kernel_rfl) (fun w_ h_ => o_move (v := (.pointer (some ⟨mb, 0, none⟩))) rfl ⟨rfl, rfl⟩) ?_
        refine a_op 5 rfl (by kernel_rfl) (fun w_ h_ => o_nilCheck rfl ⟨rfl, rfl⟩) ?_
        refine a_op 6 rfl (by kernel_rfl) (fun w_ h_ => o_fieldAddr (k := 0) (fun _ => by kernel_rfl) rfl ⟨rfl, rfl⟩) ?_
        refine a_op 7 rfl (by kernel_rfl) (fun w_ h_ => o_fieldAddr (k := 2) (fun _ => by kernel_rfl) rfl ⟨rfl, rfl⟩) ?_
        refine a_op 8 rfl (by kernel_rfl) (fun w_ h_ => o_fieldAddr (k := 2) (fun _ => by kernel_rfl) rfl ⟨rfl, rfl⟩) ?_
        refine a_op 9 rfl (by kernel_rfl) (fun w_ h_ => o_load1 (v := (.int .i64 h.seq)) Tryz.underlying3 rfl rfl h_ (seg_sub 1 rfl) (CellsAt.one rfl) ⟨rfl, rfl⟩) ?_
        refine a_op 10 rfl (by kernel_rfl) (fun w_ h_ => o_fieldAddr (k := 0) (fun _ => by kernel_rfl) rfl ⟨rfl, rfl⟩) ?_
        refine a_op 11 rfl (by kernel_rfl) (fun w_ h_ => o_load1 (v := (.int .i64 pl)) Tryz.underlying3 rfl rfl h_ (seg_sub 0 rfl) (CellsAt.one rfl) ⟨rfl, rfl⟩) ?_
        refine a_op 12 rfl (by kernel_rfl) (fun w_ h_ => o_fieldAddr (k := 1) (fun _ => by kernel_rfl) rfl ⟨rfl, rfl⟩) ?_
        refine a_op 13 rfl (by kernel_rfl) (fun w_ h_ => o_load1 (v := (.int .i64 pn)) Tryz.underlying3 rfl rfl h_ (seg_sub 0 rfl) (CellsAt.one rfl) ⟨rfl, rfl⟩) ?_
        refine a_op 14 rfl (by kernel_rfl) (fun w_ h_ => o_sight (v := (.agg #[(.int .i64 h.seq), (.int .i64 0), (.int .i64 pn), (.int .i64 pl), (.int .i64 0)])) (fun _ => by kernel_rfl) ⟨rfl, rfl⟩) ?_
        have hH18 : Has E { { { w3 with drawn := w3.drawn + 1 } with drawn := { w3 with drawn := w3.drawn + 1 }.drawn + 1 } with drawn := { { w3 with drawn := w3.drawn + 1 } with drawn := { w3 with drawn := w3.drawn + 1 }.drawn + 1 }.drawn + 1 } [[Hp.one b2 (.cells #[(.int .i64 pl), (.int .i64 pn)] 50 (0, 0))], [Hp.one mb (.cells #[(.int .i64 h.st), (.int .i64 h.cut), (.int .i64 h.seq), (.int .i64 h.ep), (.int .i64 h.cut), (.int .i64 h.st), (.int .i64 h.mrk), (.pointer (some ⟨db, 0, none⟩))] 95 (0, 0))]] := ((hH17.front 3 rfl).front 1 rfl).first 2 rfl
        refine a_two 15 19 (by kernel_rfl) hH18 ?_ ?_
        · -- first operation 15
          have hH19 : Has E { { { w3 with drawn := w3.drawn + 1 } with drawn := { w3 with drawn := w3.drawn + 1 }.drawn + 1 } with drawn := { { w3 with drawn := w3.drawn + 1 } with drawn := { w3 with drawn := w3.drawn + 1 }.drawn + 1 }.drawn + 1 } [[Hp.one b2 (.cells #[(.int .i64 pl), (.int .i64 pn)] 50 (0, 0))], [Hp.one mb (.cells #[(.int .i64 h.st), (.int .i64 h.cut), (.int .i64 h.seq), (.int .i64 h.ep), (.int .i64 h.cut), (.int .i64 h.st), (.int .i64 h.mrk), (.pointer (some ⟨db, 0, none⟩))] 95 (0, 0))]] := ((hH17.front 3 rfl).front 1 rfl).first 2 rfl
          refine ok_w 15 rfl (o_callf (vs := #[(.pointer (some ⟨db, 0, none⟩)), (.int .i64 0), (.agg #[(.int .i64 h.seq), (.int .i64 0), (.int .i64 pn), (.int .i64 pl), (.int .i64 0)])]) ca26 rfl (args3 rfl rfl rfl) (hsave_ok (p := p) (la := la) ((hH17.front 2 rfl).front 2 rfl).all2 hd (hg.mono (seg_sub 2 rfl)) hp hq hla (x := 0) (h := (Hd.mk h.seq 0 pn pl 0)) hT hb hb2) ?_)
          rintro _ w24 ⟨sg20, rfl, hd21, hX22⟩
          refine ⟨_, rfl, ?_⟩
          have hH23 : Has E w24 [sg20, [Hp.one pb (.cells #[(.bool (useS (useS p)).off), (.bool (useS (useS p)).armed), (.int .i64 (useS (useS p)).left), (.int .i64 (useS (useS p)).uses)] 78 (0, 0))], [Hp.one b2 (.cells #[(.int .i64 pl), (.int .i64 pn)] 50 (0, 0))], [Hp.one mb (.cells #[(.int .i64 h.st), (.int .i64 h.cut), (.int .i64 h.seq), (.int .i64 h.ep), (.int .i64 h.cut), (.int .i64 h.st), (.int .i64 h.mrk), (.pointer (some ⟨db, 0, none⟩))] 95 (0, 0))], R] := hX22.of_all2
          refine a_op 16 rfl (by kernel_rfl) (fun w_ h_ => o_move (v := (.tuple #[(.agg #[(.int .i64 (hdUp (Hd.mk h.seq 0 pn pl 0)).seq), (.int .i64 (hdUp (Hd.mk h.seq 0 pn pl 0)).ep), (.int .i64 (hdUp (Hd.mk h.seq 0 pn pl 0)).cut), (.int .i64 (hdUp (Hd.mk h.seq 0 pn pl 0)).st), (.int .i64 (hdUp (Hd.mk h.seq 0 pn pl 0)).mrk)]), (.int .i64 (0 : Int))])) rfl ⟨rfl, rfl⟩) ?_
          refine a_op 17 rfl (by kernel_rfl) (fun w_ h_ => o_extract (v := (.agg #[(.int .i64 (hdUp (Hd.mk h.seq 0 pn pl 0)).seq), (.int .i64 (hdUp (Hd.mk h.seq 0 pn pl 0)).ep), (.int .i64 (hdUp (Hd.mk h.seq 0 pn pl 0)).cut), (.int .i64 (hdUp (Hd.mk h.seq 0 pn pl 0)).st), (.int .i64 (hdUp (Hd.mk h.seq 0 pn pl 0)).mrk)])) rfl rfl ⟨rfl, rfl⟩) ?_
          refine a_op 18 rfl (by kernel_rfl) (fun w_ h_ => o_extract (v := (.int .i64 (0 : Int))) rfl rfl ⟨rfl, rfl⟩) ?_
          have hH25 : Has E w24 [[Hp.one b2 (.cells #[(.int .i64 pl), (.int .i64 pn)] 50 (0, 0))], [Hp.one mb (.cells #[(.int .i64 h.st), (.int .i64 h.cut), (.int .i64 h.seq), (.int .i64 h.ep), (.int .i64 h.cut), (.int .i64 h.st), (.int .i64 h.mrk), (.pointer (some ⟨db, 0, none⟩))] 95 (0, 0))]] := ((hH23.front 3 rfl).front 3 rfl).first 2 rfl
          refine a_w 19 rfl (by kernel_rfl) hH25 (o_alloc (cs := #[(.int .i64 0), (.int .i64 0), (.int .i64 0), (.int .i64 0), (.int .i64 0)]) ti27 rfl hH23 fun b26 w27 hH28 => ?_)
          have hH29 : Has E w27 [[Hp.one b2 (.cells #[(.int .i64 pl), (.int .i64 pn)] 50 (0, 0))], [Hp.one mb (.cells #[(.int .i64 h.st), (.int .i64 h.cut), (.int .i64 h.seq), (.int .i64 h.ep), (.int .i64 h.cut), (.int .i64 h.st), (.int .i64 h.mrk), (.pointer (some ⟨db, 0, none⟩))] 95 (0, 0))]] := ((hH28.front 4 rfl).front 4 rfl).first 2 rfl
          refine a_we 20 rfl (by kernel_rfl) hH29 (o_storeN (vs := [(.int .i64 (hdUp (Hd.mk h.seq 0 pn pl 0)).seq), (.int .i64 (hdUp (Hd.mk h.seq 0 pn pl 0)).ep), (.int .i64 (hdUp (Hd.mk h.seq 0 pn pl 0)).cut), (.int .i64 (hdUp (Hd.mk h.seq 0 pn pl 0)).st), (.int .i64 (hdUp (Hd.mk h.seq 0 pn pl 0)).mrk)]) (c' := #[(.int .i64 (hdUp (Hd.mk h.seq 0 pn pl 0)).seq), (.int .i64 (hdUp (Hd.mk h.seq 0 pn pl 0)).ep), (.int .i64 (hdUp (Hd.mk h.seq 0 pn pl 0)).cut), (.int .i64 (hdUp (Hd.mk h.seq 0 pn pl 0)).st), (.int .i64 (hdUp (Hd.mk h.seq 0 pn pl 0)).mrk)]) ti27 rfl rfl rfl rfl (by intro u hu; simp only [List.mem_cons, List.not_mem_nil, or_false] at hu; rcases hu with rfl | rfl | rfl | rfl | rfl <;> first | rfl) (by simp) (by kernel_rfl) (hH28.front 0 rfl) fun w30 hH31 => ?_)
          have hH32 : Has E w30 [[Hp.one b2 (.cells #[(.int .i64 pl), (.int .i64 pn)] 50 (0, 0))], [Hp.one mb (.cells #[(.int .i64 h.st), (.int .i64 h.cut), (.int .i64 h.seq), (.int .i64 h.ep), (.int .i64 h.cut), (.int .i64 h.st), (.int .i64 h.mrk), (.pointer (some ⟨db, 0, none⟩))] 95 (0, 0))]] := ((hH31.front 4 rfl).front 4 rfl).first 2 rfl
          refine a_done (by kernel_rfl) hH32 ?_
          refine r_op 21 rfl (by kernel_rfl) (o_assign (v := (.int .i64 (0 : Int))) rfl ?_)
          refine Rest.done (by kernel_rfl) ?_
          refine t_norm (hK16 _ _ ?_)
          refine wp_seq_k fun K33 hK33 => ?_
          refine wp_seq_k fun K34 hK34 => ?_
          refine c_region ?_
          refine s_op (o_move (v := (.int .i64 (0 : Int))) rfl ?_)
          refine s_op (o_eql (a := (0 : Int)) (b := 0) rfl rfl ?_)
          refine s_nil ?_
          refine t_norm (hK34 _ _ ?_)
          refine c_cond rfl (fun h35 => ?_) (fun h35 => ?_)
          · -- (0 : Int) = 0
            refine c_region ?_
            refine s_op (o_move (v := (.pointer (some ⟨mb, 0, none⟩))) rfl ?_)
            refine s_op (o_loadN (cs := [(.int .i64 pl), (.int .i64 pn)]) Tryz.underlying50 rfl ti50 rfl hH31 (seg_sub 3 rfl) (CellsAt.one rfl) ?_)
            refine s_op (o_loadN (cs := [(.int .i64 (hdUp (Hd.mk h.seq 0 pn pl 0)).seq), (.int .i64 (hdUp (Hd.mk h.seq 0 pn pl 0)).ep), (.int .i64 (hdUp (Hd.mk h.seq 0 pn pl 0)).cut), (.int .i64 (hdUp (Hd.mk h.seq 0 pn pl 0)).st), (.int .i64 (hdUp (Hd.mk h.seq 0 pn pl 0)).mrk)]) Tryz.underlying27 rfl ti27 rfl hH31 (seg_sub 0 rfl) (CellsAt.one rfl) ?_)
            refine s_op (o_sight (v := (.agg #[(.int .i64 pl), (.int .i64 pn), (.int .i64 (hdUp (Hd.mk h.seq 0 pn pl 0)).seq), (.int .i64 (hdUp (Hd.mk h.seq 0 pn pl 0)).ep), (.int .i64 (hdUp (Hd.mk h.seq 0 pn pl 0)).cut), (.int .i64 (hdUp (Hd.mk h.seq 0 pn pl 0)).st), (.int .i64 (hdUp (Hd.mk h.seq 0 pn pl 0)).mrk)])) (fun _ => by kernel_rfl) ?_)
            refine s_op (o_nilCheck rfl ?_)
            refine s_op (o_fieldAddr (k := 0) (fun _ => by kernel_rfl) rfl ?_)
            refine s_eff (o_storeN (vs := [(.int .i64 pl), (.int .i64 pn), (.int .i64 (hdUp (Hd.mk h.seq 0 pn pl 0)).seq), (.int .i64 (hdUp (Hd.mk h.seq 0 pn pl 0)).ep), (.int .i64 (hdUp (Hd.mk h.seq 0 pn pl 0)).cut), (.int .i64 (hdUp (Hd.mk h.seq 0 pn pl 0)).st), (.int .i64 (hdUp (Hd.mk h.seq 0 pn pl 0)).mrk)]) (c' := #[(.int .i64 pl), (.int .i64 pn), (.int .i64 (hdUp (Hd.mk h.seq 0 pn pl 0)).seq), (.int .i64 (hdUp (Hd.mk h.seq 0 pn pl 0)).ep), (.int .i64 (hdUp (Hd.mk h.seq 0 pn pl 0)).cut), (.int .i64 (hdUp (Hd.mk h.seq 0 pn pl 0)).st), (.int .i64 (hdUp (Hd.mk h.seq 0 pn pl 0)).mrk), (.pointer (some ⟨db, 0, none⟩))]) ti93 rfl rfl rfl rfl (by intro u hu; simp only [List.mem_cons, List.not_mem_nil, or_false] at hu; rcases hu with rfl | rfl | rfl | rfl | rfl | rfl | rfl <;> first | rfl) (by simp) (by kernel_rfl) (hH31.front 4 rfl) fun w36 hH37 => ?_)
            refine s_nil ?_
            refine t_norm (hK33 _ _ ?_)
            refine wp_seq_k fun K38 hK38 => ?_
            refine c_region ?_
            refine s_op (o_move (v := (.int .i64 (0 : Int))) rfl ?_)
            refine s_op (o_assign (v := (.int .i64 (0 : Int))) rfl ?_)
            refine s_nil ?_
            refine t_norm (hK38 _ _ ?_)
            refine wp_ret ?_
            refine c_ret1 Tryz.results24  (v := (.int .i64 (0 : Int))) rfl ?_
            have hH39 : Has E w36 [[Hp.one mb (.cells #[(.int .i64 (hdUp (hdK h pl pn)).st), (.int .i64 (hdUp (hdK h pl pn)).cut), (.int .i64 (hdUp (hdK h pl pn)).seq), (.int .i64 (hdUp (hdK h pl pn)).ep), (.int .i64 (hdUp (hdK h pl pn)).cut), (.int .i64 (hdUp (hdK h pl pn)).st), (.int .i64 (hdUp (hdK h pl pn)).mrk), (.pointer (some ⟨db, 0, none⟩))] 95 (0, 0))], [Hp.one b26 (.cells #[(.int .i64 (hdUp (Hd.mk h.seq 0 pn pl 0)).seq), (.int .i64 (hdUp (Hd.mk h.seq 0 pn pl 0)).ep), (.int .i64 (hdUp (Hd.mk h.seq 0 pn pl 0)).cut), (.int .i64 (hdUp (Hd.mk h.seq 0 pn pl 0)).st), (.int .i64 (hdUp (Hd.mk h.seq 0 pn pl 0)).mrk)] 27 (0, 0))], sg20, [Hp.one pb (.cells #[(.bool (useS (useS p)).off), (.bool (useS (useS p)).armed), (.int .i64 (useS (useS p)).left), (.int .i64 (useS (useS p)).uses)] 78 (0, 0))], [Hp.one b2 (.cells #[(.int .i64 pl), (.int .i64 pn)] 50 (0, 0))], R] := hH37
            have hH40 : Has E w36 [sg20, [Hp.one pb (.cells #[(.bool (useS (useS p)).off), (.bool (useS (useS p)).armed), (.int .i64 (useS (useS p)).left), (.int .i64 (useS (useS p)).uses)] 78 (0, 0))], [Hp.one mb (.cells #[(.int .i64 (hdUp (hdK h pl pn)).st), (.int .i64 (hdUp (hdK h pl pn)).cut), (.int .i64 (hdUp (hdK h pl pn)).seq), (.int .i64 (hdUp (hdK h pl pn)).ep), (.int .i64 (hdUp (hdK h pl pn)).cut), (.int .i64 (hdUp (hdK h pl pn)).st), (.int .i64 (hdUp (hdK h pl pn)).mrk), (.pointer (some ⟨db, 0, none⟩))] 95 (0, 0))], R] := ((((hH39.front 5 rfl).front 1 rfl).front 4 rfl).front 4 rfl).first 4 rfl
            exact ⟨_, rfl, hd21, hH40⟩
          · -- not: (0 : Int) = 0
            exact absurd rfl h35
        · -- first operation 19
          have hH41 : Has E { { { w3 with drawn := w3.drawn + 1 } with drawn := { w3 with drawn := w3.drawn + 1 }.drawn + 1 } with drawn := { { w3 with drawn := w3.drawn + 1 } with drawn := { w3 with drawn := w3.drawn + 1 }.drawn + 1 }.drawn + 1 } [[Hp.one b2 (.cells #[(.int .i64 pl), (.int .i64 pn)] 50 (0, 0))], [Hp.one mb (.cells #[(.int .i64 h.st), (.int .i64 h.cut), (.int .i64 h.seq), (.int .i64 h.ep), (.int .i64 h.cut), (.int .i64 h.st), (.int .i64 h.mrk), (.pointer (some ⟨db, 0, none⟩))] 95 (0, 0))]] := ((hH17.front 3 rfl).front 1 rfl).first 2 rfl
          refine ok_w 19 rfl (o_alloc (cs := #[(.int .i64 0), (.int .i64 0), (.int .i64 0), (.int .i64 0), (.int .i64 0)]) ti27 rfl hH17 fun b42 w43 hH44 => ?_)
          have hH45 : Has E w43 [[Hp.one b2 (.cells #[(.int .i64 pl), (.int .i64 pn)] 50 (0, 0))], [Hp.one mb (.cells #[(.int .i64 h.st), (.int .i64 h.cut), (.int .i64 h.seq), (.int .i64 h.ep), (.int .i64 h.cut), (.int .i64 h.st), (.int .i64 h.mrk), (.pointer (some ⟨db, 0, none⟩))] 95 (0, 0))]] := ((hH44.front 4 rfl).front 2 rfl).first 2 rfl
          refine a_w 15 rfl (by kernel_rfl) hH45 (o_callf (vs := #[(.pointer (some ⟨db, 0, none⟩)), (.int .i64 0), (.agg #[(.int .i64 h.seq), (.int .i64 0), (.int .i64 pn), (.int .i64 pl), (.int .i64 0)])]) ca26 rfl (args3 rfl rfl rfl) (hsave_ok (p := p) (la := la) ((hH44.front 3 rfl).front 3 rfl).all2 hd (hg.mono (seg_sub 3 rfl)) hp hq hla (x := 0) (h := (Hd.mk h.seq 0 pn pl 0)) hT hb hb2) ?_)
          rintro _ w50 ⟨sg46, rfl, hd47, hX48⟩
          refine ⟨_, rfl, ?_⟩
          have hH49 : Has E w50 [sg46, [Hp.one pb (.cells #[(.bool (useS (useS p)).off), (.bool (useS (useS p)).armed), (.int .i64 (useS (useS p)).left), (.int .i64 (useS (useS p)).uses)] 78 (0, 0))], [Hp.one b42 (.cells #[(.int .i64 0), (.int .i64 0), (.int .i64 0), (.int .i64 0), (.int .i64 0)] 27 (0, 0))], [Hp.one b2 (.cells #[(.int .i64 pl), (.int .i64 pn)] 50 (0, 0))], [Hp.one mb (.cells #[(.int .i64 h.st), (.int .i64 h.cut), (.int .i64 h.seq), (.int .i64 h.ep), (.int .i64 h.cut), (.int .i64 h.st), (.int .i64 h.mrk), (.pointer (some ⟨db, 0, none⟩))] 95 (0, 0))], R] := hX48.of_all2
          refine a_op 16 rfl (by kernel_rfl) (fun w_ h_ => o_move (v := (.tuple #[(.agg #[(.int .i64 (hdUp (Hd.mk h.seq 0 pn pl 0)).seq), (.int .i64 (hdUp (Hd.mk h.seq 0 pn pl 0)).ep), (.int .i64 (hdUp (Hd.mk h.seq 0 pn pl 0)).cut), (.int .i64 (hdUp (Hd.mk h.seq 0 pn pl 0)).st), (.int .i64 (hdUp (Hd.mk h.seq 0 pn pl 0)).mrk)]), (.int .i64 (0 : Int))])) rfl ⟨rfl, rfl⟩) ?_
          refine a_op 17 rfl (by kernel_rfl) (fun w_ h_ => o_extract (v := (.agg #[(.int .i64 (hdUp (Hd.mk h.seq 0 pn pl 0)).seq), (.int .i64 (hdUp (Hd.mk h.seq 0 pn pl 0)).ep), (.int .i64 (hdUp (Hd.mk h.seq 0 pn pl 0)).cut), (.int .i64 (hdUp (Hd.mk h.seq 0 pn pl 0)).st), (.int .i64 (hdUp (Hd.mk h.seq 0 pn pl 0)).mrk)])) rfl rfl ⟨rfl, rfl⟩) ?_
          refine a_op 18 rfl (by kernel_rfl) (fun w_ h_ => o_extract (v := (.int .i64 (0 : Int))) rfl rfl ⟨rfl, rfl⟩) ?_
          have hH51 : Has E w50 [[Hp.one b2 (.cells #[(.int .i64 pl), (.int .i64 pn)] 50 (0, 0))], [Hp.one mb (.cells #[(.int .i64 h.st), (.int .i64 h.cut), (.int .i64 h.seq), (.int .i64 h.ep), (.int .i64 h.cut), (.int .i64 h.st), (.int .i64 h.mrk), (.pointer (some ⟨db, 0, none⟩))] 95 (0, 0))]] := ((hH49.front 4 rfl).front 4 rfl).first 2 rfl
          refine a_we 20 rfl (by kernel_rfl) hH51 (o_storeN (vs := [(.int .i64 (hdUp (Hd.mk h.seq 0 pn pl 0)).seq), (.int .i64 (hdUp (Hd.mk h.seq 0 pn pl 0)).ep), (.int .i64 (hdUp (Hd.mk h.seq 0 pn pl 0)).cut), (.int .i64 (hdUp (Hd.mk h.seq 0 pn pl 0)).st), (.int .i64 (hdUp (Hd.mk h.seq 0 pn pl 0)).mrk)]) (c' := #[(.int .i64 (hdUp (Hd.mk h.seq 0 pn pl 0)).seq), (.int .i64 (hdUp (Hd.mk h.seq 0 pn pl 0)).ep), (.int .i64 (hdUp (Hd.mk h.seq 0 pn pl 0)).cut), (.int .i64 (hdUp (Hd.mk h.seq 0 pn pl 0)).st), (.int .i64 (hdUp (Hd.mk h.seq 0 pn pl 0)).mrk)]) ti27 rfl rfl rfl rfl (by intro u hu; simp only [List.mem_cons, List.not_mem_nil, or_false] at hu; rcases hu with rfl | rfl | rfl | rfl | rfl <;> first | rfl) (by simp) (by kernel_rfl) (hH49.front 2 rfl) fun w52 hH53 => ?_)
          have hH54 : Has E w52 [[Hp.one b2 (.cells #[(.int .i64 pl), (.int .i64 pn)] 50 (0, 0))], [Hp.one mb (.cells #[(.int .i64 h.st), (.int .i64 h.cut), (.int .i64 h.seq), (.int .i64 h.ep), (.int .i64 h.cut), (.int .i64 h.st), (.int .i64 h.mrk), (.pointer (some ⟨db, 0, none⟩))] 95 (0, 0))]] := ((hH53.front 4 rfl).front 4 rfl).first 2 rfl
          refine a_done (by kernel_rfl) hH54 ?_
          refine r_op 21 rfl (by kernel_rfl) (o_assign (v := (.int .i64 (0 : Int))) rfl ?_)
          refine Rest.done (by kernel_rfl) ?_
          refine t_norm (hK16 _ _ ?_)
          refine wp_seq_k fun K55 hK55 => ?_
          refine wp_seq_k fun K56 hK56 => ?_
          refine c_region ?_
          refine s_op (o_move (v := (.int .i64 (0 : Int))) rfl ?_)
          refine s_op (o_eql (a := (0 : Int)) (b := 0) rfl rfl ?_)
          refine s_nil ?_
          refine t_norm (hK56 _ _ ?_)
          refine c_cond rfl (fun h57 => ?_) (fun h57 => ?_)
          · -- (0 : Int) = 0
            refine c_region ?_
            refine s_op (o_move (v := (.pointer (some ⟨mb, 0, none⟩))) rfl ?_)
            refine s_op (o_loadN (cs := [(.int .i64 pl), (.int .i64 pn)]) Tryz.underlying50 rfl ti50 rfl hH53 (seg_sub 3 rfl) (CellsAt.one rfl) ?_)
            refine s_op (o_loadN (cs := [(.int .i64 (hdUp (Hd.mk h.seq 0 pn pl 0)).seq), (.int .i64 (hdUp (Hd.mk h.seq 0 pn pl 0)).ep), (.int .i64 (hdUp (Hd.mk h.seq 0 pn pl 0)).cut), (.int .i64 (hdUp (Hd.mk h.seq 0 pn pl 0)).st), (.int .i64 (hdUp (Hd.mk h.seq 0 pn pl 0)).mrk)]) Tryz.underlying27 rfl ti27 rfl hH53 (seg_sub 0 rfl) (CellsAt.one rfl) ?_)
            refine s_op (o_sight (v := (.agg #[(.int .i64 pl), (.int .i64 pn), (.int .i64 (hdUp (Hd.mk h.seq 0 pn pl 0)).seq), (.int .i64 (hdUp (Hd.mk h.seq 0 pn pl 0)).ep), (.int .i64 (hdUp (Hd.mk h.seq 0 pn pl 0)).cut), (.int .i64 (hdUp (Hd.mk h.seq 0 pn pl 0)).st), (.int .i64 (hdUp (Hd.mk h.seq 0 pn pl 0)).mrk)])) (fun _ => by kernel_rfl) ?_)
            refine s_op (o_nilCheck rfl ?_)
            refine s_op (o_fieldAddr (k := 0) (fun _ => by kernel_rfl) rfl ?_)
            refine s_eff (o_storeN (vs := [(.int .i64 pl), (.int .i64 pn), (.int .i64 (hdUp (Hd.mk h.seq 0 pn pl 0)).seq), (.int .i64 (hdUp (Hd.mk h.seq 0 pn pl 0)).ep), (.int .i64 (hdUp (Hd.mk h.seq 0 pn pl 0)).cut), (.int .i64 (hdUp (Hd.mk h.seq 0 pn pl 0)).st), (.int .i64 (hdUp (Hd.mk h.seq 0 pn pl 0)).mrk)]) (c' := #[(.int .i64 pl), (.int .i64 pn), (.int .i64 (hdUp (Hd.mk h.seq 0 pn pl 0)).seq), (.int .i64 (hdUp (Hd.mk h.seq 0 pn pl 0)).ep), (.int .i64 (hdUp (Hd.mk h.seq 0 pn pl 0)).cut), (.int .i64 (hdUp (Hd.mk h.seq 0 pn pl 0)).st), (.int .i64 (hdUp (Hd.mk h.seq 0 pn pl 0)).mrk), (.pointer (some ⟨db, 0, none⟩))]) ti93 rfl rfl rfl rfl (by intro u hu; simp only [List.mem_cons, List.not_mem_nil, or_false] at hu; rcases hu with rfl | rfl | rfl | rfl | rfl | rfl | rfl <;> first | rfl) (by simp) (by kernel_rfl) (hH53.front 4 rfl) fun w58 hH59 => ?_)
            refine s_nil ?_
            refine t_norm (hK55 _ _ ?_)
            refine wp_seq_k fun K60 hK60 => ?_
            refine c_region ?_
            refine s_op (o_move (v := (.int .i64 (0 : Int))) rfl ?_)
            refine s_op (o_assign (v := (.int .i64 (0 : Int))) rfl ?_)
            refine s_nil ?_
            refine t_norm (hK60 _ _ ?_)
            refine wp_ret ?_
            refine c_ret1 Tryz.results24  (v := (.int .i64 (0 : Int))) rfl ?_
            have hH61 : Has E w58 [[Hp.one mb (.cells #[(.int .i64 (hdUp (hdK h pl pn)).st), (.int .i64 (hdUp (hdK h pl pn)).cut), (.int .i64 (hdUp (hdK h pl pn)).seq), (.int .i64 (hdUp (hdK h pl pn)).ep), (.int .i64 (hdUp (hdK h pl pn)).cut), (.int .i64 (hdUp (hdK h pl pn)).st), (.int .i64 (hdUp (hdK h pl pn)).mrk), (.pointer (some ⟨db, 0, none⟩))] 95 (0, 0))], [Hp.one b42 (.cells #[(.int .i64 (hdUp (Hd.mk h.seq 0 pn pl 0)).seq), (.int .i64 (hdUp (Hd.mk h.seq 0 pn pl 0)).ep), (.int .i64 (hdUp (Hd.mk h.seq 0 pn pl 0)).cut), (.int .i64 (hdUp (Hd.mk h.seq 0 pn pl 0)).st), (.int .i64 (hdUp (Hd.mk h.seq 0 pn pl 0)).mrk)] 27 (0, 0))], sg46, [Hp.one pb (.cells #[(.bool (useS (useS p)).off), (.bool (useS (useS p)).armed), (.int .i64 (useS (useS p)).left), (.int .i64 (useS (useS p)).uses)] 78 (0, 0))], [Hp.one b2 (.cells #[(.int .i64 pl), (.int .i64 pn)] 50 (0, 0))], R] := hH59
            have hH62 : Has E w58 [sg46, [Hp.one pb (.cells #[(.bool (useS (useS p)).off), (.bool (useS (useS p)).armed), (.int .i64 (useS (useS p)).left), (.int .i64 (useS (useS p)).uses)] 78 (0, 0))], [Hp.one mb (.cells #[(.int .i64 (hdUp (hdK h pl pn)).st), (.int .i64 (hdUp (hdK h pl pn)).cut), (.int .i64 (hdUp (hdK h pl pn)).seq), (.int .i64 (hdUp (hdK h pl pn)).ep), (.int .i64 (hdUp (hdK h pl pn)).cut), (.int .i64 (hdUp (hdK h pl pn)).st), (.int .i64 (hdUp (hdK h pl pn)).mrk), (.pointer (some ⟨db, 0, none⟩))] 95 (0, 0))], R] := ((((hH61.front 5 rfl).front 1 rfl).front 4 rfl).front 4 rfl).first 4 rfl
            exact ⟨_, rfl, hd47, hH62⟩
          · -- not: (0 : Int) = 0
            exact absurd rfl h57
end Go.Q
namespace Go.Q
open Go.Proofs
set_option linter.unusedVariables false
set_option maxRecDepth 100000
attribute [local irreducible] wpList OK Code.wp
set_option maxHeartbeats 4000000 in
theorem awake19_c {E w : World} {R : List Hp} (hH : Has E w [R]) (hg : CellsAt R 0 0 nibV) :
    Calls Tryz.prog 20 #[] w fun e w' => e = .returned (.bool true) ∧ Has E w' [R] := by
  refine c_enter (args := []) Tryz.func20 rfl Tryz.ntmps20 (by simp) ?_
  refine wp_seq_k fun K1 hK1 => ?_
  refine c_region ?_
  refine s_op (o_assign (v := (.bool false)) rfl ?_)
  refine s_nil ?_
  refine t_norm (hK1 _ _ ?_)
  refine wp_seq_k fun K2 hK2 => ?_
  refine c_region ?_
  refine s_op (o_callf (vs := #[(.pointer none), (.int .i64 2)]) ca15 rfl (args2 rfl rfl) (new_nil hH.all (n := 2) (by decide)) ?_)
  rintro _ w9 ⟨db3, pb4, sg5, rfl, hd6, hX7⟩
  refine ⟨_, rfl, ?_⟩
  have hH8 : Has E w9 [sg5, [Hp.one pb4 (.cells #[(.bool (Pw.mk false false 0 0).off), (.bool (Pw.mk false false 0 0).armed), (.int .i64 (Pw.mk false false 0 0).left), (.int .i64 (Pw.mk false false 0 0).uses)] 78 (0, 0))], R] := hX7.of_all2
  refine s_op (o_assign (v := (.pointer (some ⟨db3, 0, none⟩))) rfl ?_)
  refine s_nil ?_
  refine t_norm (hK2 _ _ ?_)
  refine wp_seq_k fun K10 hK10 => ?_
  refine c_region ?_
  refine s_op (o_move (v := (.pointer (some ⟨db3, 0, none⟩))) rfl ?_)
  refine s_op (o_callf (vs := #[(.pointer (some ⟨db3, 0, none⟩))]) ca22 rfl (args1 rfl) (fmt_ok (p := (Pw.mk false false 0 0)) (la := (List.replicate 2 blankS)) ((hH8.front 1 rfl).front 1 rfl).all2 hd6 (hg.mono (seg_sub 0 rfl)) (by unfold PwOk; decide +kernel) (by unfold PwOk; decide +kernel) (by decide +kernel) (by decide +kernel) (by decide +kernel) (by decide +kernel)) ?_)
  rintro _ w16 ⟨mb11, sg12, rfl, hd13, hX14⟩
  refine ⟨_, rfl, ?_⟩
  have hH15 : Has E w16 [[Hp.one mb11 (.cells #[(.int .i64 (hdUp (Hd.mk 0 0 0 0 0)).st), (.int .i64 (hdUp (Hd.mk 0 0 0 0 0)).cut), (.int .i64 (hdUp (Hd.mk 0 0 0 0 0)).seq), (.int .i64 (hdUp (Hd.mk 0 0 0 0 0)).ep), (.int .i64 (hdUp (Hd.mk 0 0 0 0 0)).cut), (.int .i64 (hdUp (Hd.mk 0 0 0 0 0)).st), (.int .i64 (hdUp (Hd.mk 0 0 0 0 0)).mrk), (.pointer (some ⟨db3, 0, none⟩))] 95 (0, 0))], sg12, [Hp.one pb4 (.cells #[(.bool (useS (useS (Pw.mk false false 0 0))).off), (.bool (useS (useS (Pw.mk false false 0 0))).armed), (.int .i64 (useS (useS (Pw.mk false false 0 0))).left), (.int .i64 (useS (useS (Pw.mk false false 0 0))).uses)] 78 (0, 0))], R] := hX14.of_all3
  refine s_op (o_move (v := (.tuple #[(.pointer (some ⟨mb11, 0, none⟩)), (.int .i64 (0 : Int))])) rfl ?_)
  refine s_op (o_extract (v := (.pointer (some ⟨mb11, 0, none⟩))) rfl rfl ?_)
  refine s_op (o_extract (v := (.int .i64 (0 : Int))) rfl rfl ?_)
  refine s_op (o_assign (v := (.pointer (some ⟨mb11, 0, none⟩))) rfl ?_)
  refine s_op (o_assign (v := (.int .i64 (0 : Int))) rfl ?_)
  refine s_nil ?_
  refine t_norm (hK10 _ _ ?_)
  refine wp_seq_k fun K17 hK17 => ?_
  refine c_region ?_
  refine s_op (o_move (v := (.pointer (some ⟨mb11, 0, none⟩))) rfl ?_)
  refine s_op (o_sight (v := (.agg #[(.int .i64 4), (.int .i64 2)])) (fun _ => by kernel_rfl) ?_)
  refine s_op (o_callf (vs := #[(.pointer (some ⟨mb11, 0, none⟩)), (.agg #[(.int .i64 4), (.int .i64 2)])]) ca24 rfl (args2 rfl rfl) (keep_ok (p := (useS (useS (Pw.mk false false 0 0)))) (la := ((List.replicate 2 blankS).set (svN 0 (Hd.mk 0 0 0 0 0)).toNat (hdL (hdUp (Hd.mk 0 0 0 0 0))))) (h := (hdUp (Hd.mk 0 0 0 0 0))) ((hH15.front 2 rfl).front 2 rfl).all3 hd13 (hg.mono (seg_sub 0 rfl)) (by unfold PwOk; decide +kernel) (by unfold PwOk; decide +kernel) (by decide +kernel) (pl := 4) (pn := 2) ⟨by decide, by decide⟩ (by decide) (by decide +kernel) (by decide +kernel) (by decide +kernel)) ?_)
  rintro _ w22 ⟨sg19, rfl, hd18, hX20⟩
  refine ⟨_, rfl, ?_⟩
  have hH21 : Has E w22 [sg19, [Hp.one pb4 (.cells #[(.bool (useS (useS (useS (useS (Pw.mk false false 0 0))))).off), (.bool (useS (useS (useS (useS (Pw.mk false false 0 0))))).armed), (.int .i64 (useS (useS (useS (useS (Pw.mk false false 0 0))))).left), (.int .i64 (useS (useS (useS (useS (Pw.mk false false 0 0))))).uses)] 78 (0, 0))], [Hp.one mb11 (.cells #[(.int .i64 (hdUp (hdK (hdUp (Hd.mk 0 0 0 0 0)) 4 2)).st), (.int .i64 (hdUp (hdK (hdUp (Hd.mk 0 0 0 0 0)) 4 2)).cut), (.int .i64 (hdUp (hdK (hdUp (Hd.mk 0 0 0 0 0)) 4 2)).seq), (.int .i64 (hdUp (hdK (hdUp (Hd.mk 0 0 0 0 0)) 4 2)).ep), (.int .i64 (hdUp (hdK (hdUp (Hd.mk 0 0 0 0 0)) 4 2)).cut), (.int .i64 (hdUp (hdK (hdUp (Hd.mk 0 0 0 0 0)) 4 2)).st), (.int .i64 (hdUp (hdK (hdUp (Hd.mk 0 0 0 0 0)) 4 2)).mrk), (.pointer (some ⟨db3, 0, none⟩))] 95 (0, 0))], R] := hX20.of_all3
  refine s_op (o_assign (v := (.int .i64 (0 : Int))) rfl ?_)
  refine s_nil ?_
  refine t_norm (hK17 _ _ ?_)
  refine wp_seq_k fun K23 hK23 => ?_
  refine c_region ?_
  refine s_op (o_move (v := (.pointer (some ⟨db3, 0, none⟩))) rfl ?_)
  refine s_op (o_callf (vs := #[(.pointer (some ⟨db3, 0, none⟩))]) ca23 rfl (args1 rfl) (open_yes (p := (useS (useS (useS (useS (Pw.mk false false 0 0)))))) (la := (((List.replicate 2 blankS).set (svN 0 (Hd.mk 0 0 0 0 0)).toNat (hdL (hdUp (Hd.mk 0 0 0 0 0)))).set (svN 0 (hdK (hdUp (Hd.mk 0 0 0 0 0)) 4 2)).toNat (hdL (hdUp (hdK (hdUp (Hd.mk 0 0 0 0 0)) 4 2))))) ((hH21.front 1 rfl).front 1 rfl).all2 hd18 (hg.mono (seg_sub 1 rfl)) (by unfold Full64; decide +kernel) (by decide +kernel) (h := (hdUp (hdK (hdUp (Hd.mk 0 0 0 0 0)) 4 2))) (by decide +kernel) (by decide +kernel) rfl rfl) ?_)
  rintro _ w27 ⟨mb24, rfl, hX25⟩
  refine ⟨_, rfl, ?_⟩
  have hH26 : Has E w27 [[Hp.one mb24 (.cells #[(.int .i64 (hdUp (hdK (hdUp (Hd.mk 0 0 0 0 0)) 4 2)).st), (.int .i64 (hdUp (hdK (hdUp (Hd.mk 0 0 0 0 0)) 4 2)).cut), (.int .i64 (hdUp (hdK (hdUp (Hd.mk 0 0 0 0 0)) 4 2)).seq), (.int .i64 (hdUp (hdK (hdUp (Hd.mk 0 0 0 0 0)) 4 2)).ep), (.int .i64 (hdUp (hdK (hdUp (Hd.mk 0 0 0 0 0)) 4 2)).cut), (.int .i64 (hdUp (hdK (hdUp (Hd.mk 0 0 0 0 0)) 4 2)).st), (.int .i64 (hdUp (hdK (hdUp (Hd.mk 0 0 0 0 0)) 4 2)).mrk), (.pointer (some ⟨db3, 0, none⟩))] 95 (0, 0))], sg19, [Hp.one pb4 (.cells #[(.bool (useS (useS (useS (useS (Pw.mk false false 0 0))))).off), (.bool (useS (useS (useS (useS (Pw.mk false false 0 0))))).armed), (.int .i64 (useS (useS (useS (useS (Pw.mk false false 0 0))))).left), (.int .i64 (useS (useS (useS (useS (Pw.mk false false 0 0))))).uses)] 78 (0, 0))], [Hp.one mb11 (.cells #[(.int .i64 (hdUp (hdK (hdUp (Hd.mk 0 0 0 0 0)) 4 2)).st), (.int .i64 (hdUp (hdK (hdUp (Hd.mk 0 0 0 0 0)) 4 2)).cut), (.int .i64 (hdUp (hdK (hdUp (Hd.mk 0 0 0 0 0)) 4 2)).seq), (.int .i64 (hdUp (hdK (hdUp (Hd.mk 0 0 0 0 0)) 4 2)).ep), (.int .i64 (hdUp (hdK (hdUp (Hd.mk 0 0 0 0 0)) 4 2)).cut), (.int .i64 (hdUp (hdK (hdUp (Hd.mk 0 0 0 0 0)) 4 2)).st), (.int .i64 (hdUp (hdK (hdUp (Hd.mk 0 0 0 0 0)) 4 2)).mrk), (.pointer (some ⟨db3, 0, none⟩))] 95 (0, 0))], R] := hX25.of_all3
  refine s_op (o_move (v := (.tuple #[(.pointer (some ⟨mb24, 0, none⟩)), (.int .i64 (0 : Int))])) rfl ?_)
  refine s_op (o_extract (v := (.pointer (some ⟨mb24, 0, none⟩))) rfl rfl ?_)
  refine s_op (o_extract (v := (.int .i64 (0 : Int))) rfl rfl ?_)
  refine s_op (o_assign (v := (.pointer (some ⟨mb24, 0, none⟩))) rfl ?_)
  refine s_op (o_assign (v := (.int .i64 (0 : Int))) rfl ?_)
  refine s_nil ?_
  refine t_norm (hK23 _ _ ?_)
  refine wp_seq_k fun K28 hK28 => ?_
  refine c_region ?_
  refine s_op (o_buildSlice (ps := #[(0, (.int .i64 4)), (1, (.int .i64 7))]) (cells := #[(.int .i64 4), (.int .i64 7)]) Tryz.underlying46 ti3 (by decide) (parts2 rfl rfl) (by kernel_rfl) hH26 fun b29 w30 hH31 => ?_)
  refine s_op (o_callf (vs := #[(.int .i64 9), (.slice (some ⟨b29, 0, none⟩) 2 2)]) ca21 rfl (args2 rfl rfl) (low_c hH31.all 9 (l := [4, 7]) ((sl_lit (f := iV) (l := [4, 7]) rfl rfl (by simp)).mono (seg_sub 0 rfl))) ?_)
  rintro _ w34 ⟨rfl, hX32⟩
  refine ⟨_, rfl, ?_⟩
  have hH33 := hX32.of_all
  refine s_op (o_eql (a := lowS (sumS 0 [9, 1]) [4, 7]) (b := 4) rfl rfl ?_)
  refine s_op (o_move (v := (.bool (decide (lowS (sumS 0 [9, 1]) [4, 7] = 4)))) rfl ?_)
  by_cases h35 : lowS (sumS 0 [9, 1]) [4, 7] = 4
  · -- lowS (sumS 0 [9, 1]) [4, 7] = 4
    refine s_on 24 rfl (congrArg Value.bool (decide_eq_true h35)) (o_callf (vs := #[(.int .i64 9), (.slice none 0 0)]) ca21 rfl (args2 rfl rfl) (low_c hH33.all 9 (l := []) (sl_nil 1)) ?_)
    rintro _ w38 ⟨rfl, hX36⟩
    refine ⟨_, rfl, ?_⟩
    have hH37 := hX36.of_all
    refine s_on 24 rfl (congrArg Value.bool (decide_eq_true h35)) (o_eql (a := lowS (sumS 0 [9, 1]) []) (b := 10) rfl rfl ?_)
    refine s_op (o_pick_t (u := (.bool (decide (lowS (sumS 0 [9, 1]) [] = 10)))) ((rfl : _ = _).trans (congrArg Value.bool (decide_eq_true h35))) rfl ?_)
    refine s_op (o_move (v := (.bool (decide (lowS (sumS 0 [9, 1]) [] = 10)))) rfl ?_)
    by_cases h39 : lowS (sumS 0 [9, 1]) [] = 10
    · -- lowS (sumS 0 [9, 1]) [] = 10
      refine s_on 28 rfl (congrArg Value.bool (decide_eq_true h39)) (o_move (v := (.int .i64 (0 : Int))) rfl ?_)
      refine s_on 28 rfl (congrArg Value.bool (decide_eq_true h39)) (o_eql (a := (0 : Int)) (b := 0) rfl rfl ?_)
      refine s_op (o_pick_t (u := (.bool (decide ((0 : Int) = 0)))) ((rfl : _ = _).trans (congrArg Value.bool (decide_eq_true h39))) rfl ?_)
      refine s_op (o_move (v := (.bool (decide ((0 : Int) = 0)))) rfl ?_)
      by_cases h40 : (0 : Int) = 0
      · -- (0 : Int) = 0
        refine s_on 32 rfl (congrArg Value.bool (decide_eq_true h40)) (o_move (v := (.int .i64 (0 : Int))) rfl ?_)
        refine s_on 32 rfl (congrArg Value.bool (decide_eq_true h40)) (o_eql (a := (0 : Int)) (b := 0) rfl rfl ?_)
        refine s_op (o_pick_t (u := (.bool (decide ((0 : Int) = 0)))) ((rfl : _ = _).trans (congrArg Value.bool (decide_eq_true h40))) rfl ?_)
        refine s_op (o_move (v := (.bool (decide ((0 : Int) = 0)))) rfl ?_)
        refine s_on 36 rfl (congrArg Value.bool (decide_eq_true h40)) (o_move (v := (.int .i64 (0 : Int))) rfl ?_)
        refine s_on 36 rfl (congrArg Value.bool (decide_eq_true h40)) (o_eql (a := (0 : Int)) (b := 0) rfl rfl ?_)
        refine s_op (o_pick_t (u := (.bool (decide ((0 : Int) = 0)))) ((rfl : _ = _).trans (congrArg Value.bool (decide_eq_true h40))) rfl ?_)
        refine s_op (o_move (v := (.bool (decide ((0 : Int) = 0)))) rfl ?_)
        refine s_on 40 rfl (congrArg Value.bool (decide_eq_true h40)) (o_move (v := (.pointer (some ⟨mb24, 0, none⟩))) rfl ?_)
        refine s_on 40 rfl (congrArg Value.bool (decide_eq_true h40)) (o_callf (vs := #[(.pointer (some ⟨mb24, 0, none⟩))]) ca25 rfl (args1 rfl) (mpoint_c (h := (hdUp (hdK (hdUp (Hd.mk 0 0 0 0 0)) 4 2))) (db := db3) hH37.all ((CellsAt.one rfl).mono (seg_sub 1 rfl))) ?_)
        rintro _ w43 ⟨rfl, hX41⟩
        refine ⟨_, rfl, ?_⟩
        have hH42 := hX41.of_all
        refine s_on 40 rfl (congrArg Value.bool (decide_eq_true h40)) (o_sight (v := (.agg #[(.int .i64 4), (.int .i64 2)])) (fun _ => by kernel_rfl) ?_)
        refine s_on 40 rfl (congrArg Value.bool (decide_eq_true h40)) (o_eql50 ((hdUp (hdK (hdUp (Hd.mk 0 0 0 0 0)) 4 2)).st) ((hdUp (hdK (hdUp (Hd.mk 0 0 0 0 0)) 4 2)).cut) (4 : Int) (2 : Int) rfl rfl ?_)
        refine s_op (o_pick_t (u := (.bool (eqv50 ((hdUp (hdK (hdUp (Hd.mk 0 0 0 0 0)) 4 2)).st) ((hdUp (hdK (hdUp (Hd.mk 0 0 0 0 0)) 4 2)).cut) (4 : Int) (2 : Int)))) ((rfl : _ = _).trans (congrArg Value.bool (decide_eq_true h40))) rfl ?_)
        refine s_op (o_assign (v := (.bool (eqv50 ((hdUp (hdK (hdUp (Hd.mk 0 0 0 0 0)) 4 2)).st) ((hdUp (hdK (hdUp (Hd.mk 0 0 0 0 0)) 4 2)).cut) (4 : Int) (2 : Int)))) rfl ?_)
        refine s_nil ?_
        refine t_norm (hK28 _ _ ?_)
        refine wp_ret ?_
        refine c_ret1 Tryz.results20  (v := (.bool (eqv50 ((hdUp (hdK (hdUp (Hd.mk 0 0 0 0 0)) 4 2)).st) ((hdUp (hdK (hdUp (Hd.mk 0 0 0 0 0)) 4 2)).cut) (4 : Int) (2 : Int)))) rfl ?_
        have hH44 : Has E w43 [R] := (hH42.front 5 rfl).first 1 rfl
        exact ⟨by rw [show eqv50 ((hdUp (hdK (hdUp (Hd.mk 0 0 0 0 0)) 4 2)).st) ((hdUp (hdK (hdUp (Hd.mk 0 0 0 0 0)) 4 2)).cut) (4 : Int) (2 : Int) = true by decide +kernel], hH44⟩
      · -- not: (0 : Int) = 0
        exact absurd (by decide +kernel) h40
    · -- not: lowS (sumS 0 [9, 1]) [] = 10
      exact absurd (by decide +kernel) h39
  · -- not: lowS (sumS 0 [9, 1]) [4, 7] = 4
    exact absurd (by decide +kernel) h35
end Go.Q
namespace Go.Q
open Go.Proofs
set_option linter.unusedVariables false
set_option maxRecDepth 100000
attribute [local irreducible] wpList OK Code.wp
set_option maxHeartbeats 4000000 in
theorem keep_arg {E w : World} {R sg : List Hp} {pb db mb : Nat} {p : Pw} {la : List Bs} {h : Hd} (hH : Has E w [sg, [Hp.one pb (.cells #[(.bool p.off), (.bool p.armed), (.int .i64 p.left), (.int .i64 p.uses)] 78 (0, 0))], [Hp.one mb (.cells #[(.int .i64 h.st), (.int .i64 h.cut), (.int .i64 h.seq), (.int .i64 h.ep), (.int .i64 h.cut), (.int .i64 h.st), (.int .i64 h.mrk), (.pointer (some ⟨db, 0, none⟩))] 95 (0, 0))], R]) (hd : DevAt pb sg db la []) (hg : CellsAt R 0 0 nibV) (hp : PwOk p) (hq : PwOk (useS p)) (hla : la.length ≤ 4096) {pl pn : Int} (hlt : pl < h.st ∨ pn < h.cut) :
    Calls Tryz.prog 24 #[(.pointer (some ⟨mb, 0, none⟩)), (.agg #[(.int .i64 pl), (.int .i64 pn)])] w fun e w' => e = .returned (.int .i64 1) ∧ DevAt pb sg db la [] ∧ Has E w' [sg, [Hp.one pb (.cells #[(.bool p.off), (.bool p.armed), (.int .i64 p.left), (.int .i64 p.uses)] 78 (0, 0))], [Hp.one mb (.cells #[(.int .i64 h.st), (.int .i64 h.cut), (.int .i64 h.seq), (.int .i64 h.ep), (.int .i64 h.cut), (.int .i64 h.st), (.int .i64 h.mrk), (.pointer (some ⟨db, 0, none⟩))] 95 (0, 0))], R] := by
  refine c_enter (args := [(.pointer (some ⟨mb, 0, none⟩)), (.agg #[(.int .i64 pl), (.int .i64 pn)])]) Tryz.func24 rfl Tryz.ntmps24 (by simp) ?_
  refine wp_seq_k fun K1 hK1 => ?_
  refine c_region ?_
  refine s_op (o_box (cs := #[(.int .i64 pl), (.int .i64 pn)]) rfl rfl hH fun b2 w3 hH4 => ?_)
  refine s_op (o_assign (v := (.int .i64 0)) rfl ?_)
  refine s_nil ?_
  refine t_norm (hK1 _ _ ?_)
  refine wp_seq_k fun K5 hK5 => ?_
  refine wp_block ?_
  refine wp_seq_k fun K6 hK6 => ?_
  refine Rest.region mixed (by kernel_rfl) ?_
  have hH7 : Has E { w3 with drawn := w3.drawn + 1 } [[Hp.one b2 (.cells #[(.int .i64 pl), (.int .i64 pn)] 50 (0, 0))], sg, [Hp.one pb (.cells #[(.bool p.off), (.bool p.armed), (.int .i64 p.left), (.int .i64 p.uses)] 78 (0, 0))], [Hp.one mb (.cells #[(.int .i64 h.st), (.int .i64 h.cut), (.int .i64 h.seq), (.int .i64 h.ep), (.int .i64 h.cut), (.int .i64 h.st), (.int .i64 h.mrk), (.pointer (some ⟨db, 0, none⟩))] 95 (0, 0))], R] := Has0.drew hH4 _
  refine r_op 0 rfl (by kernel_rfl) (o_move (v := (.pointer (some ⟨mb, 0, none⟩))) rfl ?_)
  refine r_op 1 rfl (by kernel_rfl) (o_pnil (p := some _) Tryz.underlying51 rfl rfl ?_)
  refine r_op 2 rfl (by kernel_rfl) (o_move (v := (.bool false)) rfl ?_)
  refine Rest.phaseA (fun w_ => Has E w_ [[Hp.one b2 (.cells #[(.int .i64 pl), (.int .i64 pn)] 50 (0, 0))], [Hp.one mb (.cells #[(.int .i64 h.st), (.int .i64 h.cut), (.int .i64 h.seq), (.int .i64 h.ep), (.int .i64 h.cut), (.int .i64 h.st), (.int .i64 h.mrk), (.pointer (some ⟨db, 0, none⟩))] 95 (0, 0))]]) 3 11 8 rfl (by decide) (by kernel_rfl) ?_
  refine a_on 3 rfl (by kernel_rfl) 10 rfl rfl (fun w_ h_ => o_fieldAddr (k := 0) (fun _ => by kernel_rfl) rfl ⟨rfl, rfl⟩) ?_
  refine a_on 4 rfl (by kernel_rfl) 10 rfl rfl (fun w_ h_ => o_load1 (v := (.int .i64 pl)) Tryz.underlying3 rfl rfl h_ (seg_sub 0 rfl) (CellsAt.one rfl) ⟨rfl, rfl⟩) ?_
  refine a_on 5 rfl (by kernel_rfl) 10 rfl rfl (fun w_ h_ => o_move (v := (.pointer (some ⟨mb, 0, none⟩))) rfl ⟨rfl, rfl⟩) ?_
  refine a_on 6 rfl (by kernel_rfl) 10 rfl rfl (fun w_ h_ => o_nilCheck rfl ⟨rfl, rfl⟩) ?_
  refine a_on 7 rfl (by kernel_rfl) 10 rfl rfl (fun w_ h_ => o_fieldAddr (k := 0) (fun _ => by kernel_rfl) rfl ⟨rfl, rfl⟩) ?_
  refine a_on 8 rfl (by kernel_rfl) 10 rfl rfl (fun w_ h_ => o_fieldAddr (k := 0) (fun _ => by kernel_rfl) rfl ⟨rfl, rfl⟩) ?_
  refine a_on 9 rfl (by kernel_rfl) 10 rfl rfl (fun w_ h_ => o_fieldAddr (k := 0) (fun _ => by kernel_rfl) rfl ⟨rfl, rfl⟩) ?_
  refine a_on 10 rfl (by kernel_rfl) 10 rfl rfl (fun w_ h_ => o_load1 (v := (.int .i64 h.st)) Tryz.underlying3 rfl rfl h_ (seg_sub 1 rfl) (CellsAt.one rfl) ⟨rfl, rfl⟩) ?_
  have hH8 : Has E { w3 with drawn := w3.drawn + 1 } [[Hp.one b2 (.cells #[(.int .i64 pl), (.int .i64 pn)] 50 (0, 0))], [Hp.one mb (.cells #[(.int .i64 h.st), (.int .i64 h.cut), (.int .i64 h.seq), (.int .i64 h.ep), (.int .i64 h.cut), (.int .i64 h.st), (.int .i64 h.mrk), (.pointer (some ⟨db, 0, none⟩))] 95 (0, 0))]] := ((hH7.front 3 rfl).front 1 rfl).first 2 rfl
  refine a_done (by kernel_rfl) hH8 ?_
  refine r_on 11 rfl (by kernel_rfl) 10 rfl rfl (o_lss (a := pl) (b := h.st) rfl rfl ?_)
  refine r_op 12 rfl (by kernel_rfl) (o_pick_f (u := (.bool (decide (pl < h.st)))) rfl rfl ?_)
  refine r_op 13 rfl (by kernel_rfl) (o_move (v := (.bool (decide (pl < h.st)))) rfl ?_)
  refine Rest.phaseA (fun w_ => Has E w_ [[Hp.one b2 (.cells #[(.int .i64 pl), (.int .i64 pn)] 50 (0, 0))], [Hp.one mb (.cells #[(.int .i64 h.st), (.int .i64 h.cut), (.int .i64 h.seq), (.int .i64 h.ep), (.int .i64 h.cut), (.int .i64 h.st), (.int .i64 h.mrk), (.pointer (some ⟨db, 0, none⟩))] 95 (0, 0))]]) 14 22 8 rfl (by decide) (by kernel_rfl) ?_
  by_cases h9 : pl < h.st
  · -- pl < h.st
    refine a_off (b' := true) 14 rfl (by kernel_rfl) 21 rfl (congrArg Value.bool (decide_eq_true h9)) rfl ?_
    refine a_off (b' := true) 15 rfl (by kernel_rfl) 21 rfl (congrArg Value.bool (decide_eq_true h9)) rfl ?_
    refine a_off (b' := true) 16 rfl (by kernel_rfl) 21 rfl (congrArg Value.bool (decide_eq_true h9)) rfl ?_
    refine a_off (b' := true) 17 rfl (by kernel_rfl) 21 rfl (congrArg Value.bool (decide_eq_true h9)) rfl ?_
    refine a_off (b' := true) 18 rfl (by kernel_rfl) 21 rfl (congrArg Value.bool (decide_eq_true h9)) rfl ?_
    refine a_off (b' := true) 19 rfl (by kernel_rfl) 21 rfl (congrArg Value.bool (decide_eq_true h9)) rfl ?_
    refine a_off (b' := true) 20 rfl (by kernel_rfl) 21 rfl (congrArg Value.bool (decide_eq_true h9)) rfl ?_
    refine a_off (b' := true) 21 rfl (by kernel_rfl) 21 rfl (congrArg Value.bool (decide_eq_true h9)) rfl ?_
    have hH10 : Has E { w3 with drawn := w3.drawn + 1 } [[Hp.one b2 (.cells #[(.int .i64 pl), (.int .i64 pn)] 50 (0, 0))], [Hp.one mb (.cells #[(.int .i64 h.st), (.int .i64 h.cut), (.int .i64 h.seq), (.int .i64 h.ep), (.int .i64 h.cut), (.int .i64 h.st), (.int .i64 h.mrk), (.pointer (some ⟨db, 0, none⟩))] 95 (0, 0))]] := ((hH7.front 3 rfl).front 1 rfl).first 2 rfl
    refine a_done (by kernel_rfl) hH10 ?_
    refine r_off (b' := true) 22 rfl (by kernel_rfl) 21 rfl (congrArg Value.bool (decide_eq_true h9)) rfl ?_
    refine r_op 23 rfl (by kernel_rfl) (o_pick_t (u := (.bool true)) ((rfl : _ = _).trans (congrArg Value.bool (decide_eq_true h9))) rfl ?_)
    refine r_op 24 rfl (by kernel_rfl) (o_assign (v := (.bool true)) rfl ?_)
    refine Rest.done (by kernel_rfl) ?_
    refine t_norm (hK6 _ _ ?_)
    refine c_true rfl rfl ?_
    refine wp_seq_k fun K11 hK11 => ?_
    refine c_region ?_
    refine s_op (o_assign (v := (.int .i64 1)) rfl ?_)
    refine s_nil ?_
    refine t_norm (hK11 _ _ ?_)
    refine wp_ret ?_
    refine b_ret (t_ret (c_ret1 Tryz.results24  (v := (.int .i64 1)) rfl ?_))
    have hH12 : Has E { w3 with drawn := w3.drawn + 1 } [sg, [Hp.one pb (.cells #[(.bool p.off), (.bool p.armed), (.int .i64 p.left), (.int .i64 p.uses)] 78 (0, 0))], [Hp.one mb (.cells #[(.int .i64 h.st), (.int .i64 h.cut), (.int .i64 h.seq), (.int .i64 h.ep), (.int .i64 h.cut), (.int .i64 h.st), (.int .i64 h.mrk), (.pointer (some ⟨db, 0, none⟩))] 95 (0, 0))], R] := ((((hH7.front 4 rfl).front 4 rfl).front 4 rfl).front 4 rfl).first 4 rfl
    exact ⟨rfl, hd, hH12⟩
  · -- not: pl < h.st
    refine a_on 14 rfl (by kernel_rfl) 21 rfl (congrArg Value.bool (decide_eq_false h9)) (fun w_ h_ => o_fieldAddr (k := 1) (fun _ => by kernel_rfl) rfl ⟨rfl, rfl⟩) ?_
    refine a_on 15 rfl (by kernel_rfl) 21 rfl (congrArg Value.bool (decide_eq_false h9)) (fun w_ h_ => o_load1 (v := (.int .i64 pn)) Tryz.underlying3 rfl rfl h_ (seg_sub 0 rfl) (CellsAt.one rfl) ⟨rfl, rfl⟩) ?_
    refine a_on 16 rfl (by kernel_rfl) 21 rfl (congrArg Value.bool (decide_eq_false h9)) (fun w_ h_ => o_move (v := (.pointer (some ⟨mb, 0, none⟩))) rfl ⟨rfl, rfl⟩) ?_
    refine a_on 17 rfl (by kernel_rfl) 21 rfl (congrArg Value.bool (decide_eq_false h9)) (fun w_ h_ => o_nilCheck rfl ⟨rfl, rfl⟩) ?_
    refine a_on 18 rfl (by kernel_rfl) 21 rfl (congrArg Value.bool (decide_eq_false h9)) (fun w_ h_ => o_fieldAddr (k := 0) (fun _ => by kernel_rfl) rfl ⟨rfl, rfl⟩) ?_
    refine a_on 19 rfl (by kernel_rfl) 21 rfl (congrArg Value.bool (decide_eq_false h9)) (fun w_ h_ => o_fieldAddr (k := 0) (fun _ => by kernel_rfl) rfl ⟨rfl, rfl⟩) ?_
    refine a_on 20 rfl (by kernel_rfl) 21 rfl (congrArg Value.bool (decide_eq_false h9)) (fun w_ h_ => o_fieldAddr (k := 1) (fun _ => by kernel_rfl) rfl ⟨rfl, rfl⟩) ?_
    refine a_on 21 rfl (by kernel_rfl) 21 rfl (congrArg Value.bool (decide_eq_false h9)) (fun w_ h_ => o_load1 (v := (.int .i64 h.cut)) Tryz.underlying3 rfl rfl h_ (seg_sub 1 rfl) (CellsAt.one rfl) ⟨rfl, rfl⟩) ?_
    have hH13 : Has E { w3 with drawn := w3.drawn + 1 } [[Hp.one b2 (.cells #[(.int .i64 pl), (.int .i64 pn)] 50 (0, 0))], [Hp.one mb (.cells #[(.int .i64 h.st), (.int .i64 h.cut), (.int .i64 h.seq), (.int .i64 h.ep), (.int .i64 h.cut), (.int .i64 h.st), (.int .i64 h.mrk), (.pointer (some ⟨db, 0, none⟩))] 95 (0, 0))]] := ((hH7.front 3 rfl).front 1 rfl).first 2 rfl
    refine a_done (by kernel_rfl) hH13 ?_
    refine r_on 22 rfl (by kernel_rfl) 21 rfl (congrArg Value.bool (decide_eq_false h9)) (o_lss (a := pn) (b := h.cut) rfl rfl ?_)
    refine r_op 23 rfl (by kernel_rfl) (o_pick_f (u := (.bool (decide (pn < h.cut)))) ((rfl : _ = _).trans (congrArg Value.bool (decide_eq_false h9))) rfl ?_)
    refine r_op 24 rfl (by kernel_rfl) (o_assign (v := (.bool (decide (pn < h.cut)))) rfl ?_)
    refine Rest.done (by kernel_rfl) ?_
    refine t_norm (hK6 _ _ ?_)
    refine c_cond rfl (fun h14 => ?_) (fun h14 => ?_)
    · -- pn < h.cut
      refine wp_seq_k fun K15 hK15 => ?_
      refine c_region ?_
      refine s_op (o_assign (v := (.int .i64 1)) rfl ?_)
      refine s_nil ?_
      refine t_norm (hK15 _ _ ?_)
      refine wp_ret ?_
      refine b_ret (t_ret (c_ret1 Tryz.results24  (v := (.int .i64 1)) rfl ?_))
      have hH16 : Has E { w3 with drawn := w3.drawn + 1 } [sg, [Hp.one pb (.cells #[(.bool p.off), (.bool p.armed), (.int .i64 p.left), (.int .i64 p.uses)] 78 (0, 0))], [Hp.one mb (.cells #[(.int .i64 h.st), (.int .i64 h.cut), (.int .i64 h.seq), (.int .i64 h.ep), (.int .i64 h.cut), (.int .i64 h.st), (.int .i64 h.mrk), (.pointer (some ⟨db, 0, none⟩))] 95 (0, 0))], R] := ((((hH7.front 4 rfl).front 4 rfl).front 4 rfl).front 4 rfl).first 4 rfl
      exact ⟨rfl, hd, hH16⟩
    · -- not: pn < h.cut
      exfalso; omega
end Go.Q
namespace Go.Q
open Go.Proofs
set_option linter.unusedVariables false
set_option maxRecDepth 100000
attribute [local irreducible] wpList OK Code.wp
set_option maxHeartbeats 4000000 in
theorem keep_same {E w : World} {R sg : List Hp} {pb db mb : Nat} {p : Pw} {la : List Bs} {h : Hd} (hH : Has E w [sg, [Hp.one pb (.cells #[(.bool p.off), (.bool p.armed), (.int .i64 p.left), (.int .i64 p.uses)] 78 (0, 0))], [Hp.one mb (.cells #[(.int .i64 h.st), (.int .i64 h.cut), (.int .i64 h.seq), (.int .i64 h.ep), (.int .i64 h.cut), (.int .i64 h.st), (.int .i64 h.mrk), (.pointer (some ⟨db, 0, none⟩))] 95 (0, 0))], R]) (hd : DevAt pb sg db la []) (hg : CellsAt R 0 0 nibV) (hp : PwOk p) (hq : PwOk (useS p)) (hla : la.length ≤ 4096) {pl pn : Int} (hge : pl = h.st) (hge2 : pn = h.cut) :
    Calls Tryz.prog 24 #[(.pointer (some ⟨mb, 0, none⟩)), (.agg #[(.int .i64 pl), (.int .i64 pn)])] w fun e w' => e = .returned (.int .i64 0) ∧ DevAt pb sg db la [] ∧ Has E w' [sg, [Hp.one pb (.cells #[(.bool p.off), (.bool p.armed), (.int .i64 p.left), (.int .i64 p.uses)] 78 (0, 0))], [Hp.one mb (.cells #[(.int .i64 h.st), (.int .i64 h.cut), (.int .i64 h.seq), (.int .i64 h.ep), (.int .i64 h.cut), (.int .i64 h.st), (.int .i64 h.mrk), (.pointer (some ⟨db, 0, none⟩))] 95 (0, 0))], R] := by
  refine c_enter (args := [(.pointer (some ⟨mb, 0, none⟩)), (.agg #[(.int .i64 pl), (.int .i64 pn)])]) Tryz.func24 rfl Tryz.ntmps24 (by simp) ?_
  refine wp_seq_k fun K1 hK1 => ?_
  refine c_region ?_
  refine s_op (o_box (cs := #[(.int .i64 pl), (.int .i64 pn)]) rfl rfl hH fun b2 w3 hH4 => ?_)
  refine s_op (o_assign (v := (.int .i64 0)) rfl ?_)
  refine s_nil ?_
  refine t_norm (hK1 _ _ ?_)
  refine wp_seq_k fun K5 hK5 => ?_
  refine wp_block ?_
  refine wp_seq_k fun K6 hK6 => ?_
  refine Rest.region mixed (by kernel_rfl) ?_
  have hH7 : Has E { w3 with drawn := w3.drawn + 1 } [[Hp.one b2 (.cells #[(.int .i64 pl), (.int .i64 pn)] 50 (0, 0))], sg, [Hp.one pb (.cells #[(.bool p.off), (.bool p.armed), (.int .i64 p.left), (.int .i64 p.uses)] 78 (0, 0))], [Hp.one mb (.cells #[(.int .i64 h.st), (.int .i64 h.cut), (.int .i64 h.seq), (.int .i64 h.ep), (.int .i64 h.cut), (.int .i64 h.st), (.int .i64 h.mrk), (.pointer (some ⟨db, 0, none⟩))] 95 (0, 0))], R] := Has0.drew hH4 _
  refine r_op 0 rfl (by kernel_rfl) (o_move (v := (.pointer (some ⟨mb, 0, none⟩))) rfl ?_)
  refine r_op 1 rfl (by kernel_rfl) (o_pnil (p := some _) Tryz.underlying51 rfl rfl ?_)
  refine r_op 2 rfl (by kernel_rfl) (o_move (v := (.bool false)) rfl ?_)
  refine Rest.phaseA (fun w_ => Has E w_ [[Hp.one b2 (.cells #[(.int .i64 pl), (.int .i64 pn)] 50 (0, 0))], [Hp.one mb (.cells #[(.int .i64 h.st), (.int .i64 h.cut), (.int .i64 h.seq), (.int .i64 h.ep), (.int .i64 h.cut), (.int .i64 h.st), (.int .i64 h.mrk), (.pointer (some ⟨db, 0, none⟩))] 95 (0, 0))]]) 3 11 8 rfl (by decide) (by kernel_rfl) ?_
  refine a_on 3 rfl (by kernel_rfl) 10 rfl rfl (fun w_ h_ => o_fieldAddr (k := 0) (fun _ => by kernel_rfl) rfl ⟨rfl, rfl⟩) ?_
  refine a_on 4 rfl (by kernel_rfl) 10 rfl rfl (fun w_ h_ => o_load1 (v := (.int .i64 pl)) Tryz.underlying3 rfl rfl h_ (seg_sub 0 rfl) (CellsAt.one rfl) ⟨rfl, rfl⟩) ?_
  refine a_on 5 rfl (by kernel_rfl) 10 rfl rfl (fun w_ h_ => o_move (v := (.pointer (some ⟨mb, 0, none⟩))) rfl ⟨rfl, rfl⟩) ?_
  refine a_on 6 rfl (by kernel_rfl) 10 rfl rfl (fun w_ h_ => o_nilCheck rfl ⟨rfl, rfl⟩) ?_
  refine a_on 7 rfl (by kernel_rfl) 10 rfl rfl (fun w_ h_ => o_fieldAddr (k := 0) (fun _ => by kernel_rfl) rfl ⟨rfl, rfl⟩) ?_
  refine a_on 8 rfl (by kernel_rfl) 10 rfl rfl (fun w_ h_ => o_fieldAddr (k := 0) (fun _ => by kernel_rfl) rfl ⟨rfl, rfl⟩) ?_
  refine a_on 9 rfl (by kernel_rfl) 10 rfl rfl (fun w_ h_ => o_fieldAddr (k := 0) (fun _ => by kernel_rfl) rfl ⟨rfl, rfl⟩) ?_
  refine a_on 10 rfl (by kernel_rfl) 10 rfl rfl (fun w_ h_ => o_load1 (v := (.int .i64 h.st)) Tryz.underlying3 rfl rfl h_ (seg_sub 1 rfl) (CellsAt.one rfl) ⟨rfl, rfl⟩) ?_
  have hH8 : Has E { w3 with drawn := w3.drawn + 1 } [[Hp.one b2 (.cells #[(.int .i64 pl), (.int .i64 pn)] 50 (0, 0))], [Hp.one mb (.cells #[(.int .i64 h.st), (.int .i64 h.cut), (.int .i64 h.seq), (.int .i64 h.ep), (.int .i64 h.cut), (.int .i64 h.st), (.int .i64 h.mrk), (.pointer (some ⟨db, 0, none⟩))] 95 (0, 0))]] := ((hH7.front 3 rfl).front 1 rfl).first 2 rfl
  refine a_done (by kernel_rfl) hH8 ?_
  refine r_on 11 rfl (by kernel_rfl) 10 rfl rfl (o_lss (a := pl) (b := h.st) rfl rfl ?_)
  refine r_op 12 rfl (by kernel_rfl) (o_pick_f (u := (.bool (decide (pl < h.st)))) rfl rfl ?_)
  refine r_op 13 rfl (by kernel_rfl) (o_move (v := (.bool (decide (pl < h.st)))) rfl ?_)
  refine Rest.phaseA (fun w_ => Has E w_ [[Hp.one b2 (.cells #[(.int .i64 pl), (.int .i64 pn)] 50 (0, 0))], [Hp.one mb (.cells #[(.int .i64 h.st), (.int .i64 h.cut), (.int .i64 h.seq), (.int .i64 h.ep), (.int .i64 h.cut), (.int .i64 h.st), (.int .i64 h.mrk), (.pointer (some ⟨db, 0, none⟩))] 95 (0, 0))]]) 14 22 8 rfl (by decide) (by kernel_rfl) ?_
  by_cases h9 : pl < h.st
  · -- pl < h.st
    exfalso; omega
  · -- not: pl < h.st
    refine a_on 14 rfl (by kernel_rfl) 21 rfl (congrArg Value.bool (decide_eq_false h9)) (fun w_ h_ => o_fieldAddr (k := 1) (fun _ => by kernel_rfl) rfl ⟨rfl, rfl⟩) ?_
    refine a_on 15 rfl (by kernel_rfl) 21 rfl (congrArg Value.bool (decide_eq_false h9)) (fun w_ h_ => o_load1 (v := (.int .i64 pn)) Tryz.underlying3 rfl rfl h_ (seg_sub 0 rfl) (CellsAt.one rfl) ⟨rfl, rfl⟩) ?_
    refine a_on 16 rfl (by kernel_rfl) 21 rfl (congrArg Value.bool (decide_eq_false h9)) (fun w_ h_ => o_move (v := (.pointer (some ⟨mb, 0, none⟩))) rfl ⟨rfl, rfl⟩) ?_
    refine a_on 17 rfl (by kernel_rfl) 21 rfl (congrArg Value.bool (decide_eq_false h9)) (fun w_ h_ => o_nilCheck rfl ⟨rfl, rfl⟩) ?_
    refine a_on 18 rfl (by kernel_rfl) 21 rfl (congrArg Value.bool (decide_eq_false h9)) (fun w_ h_ => o_fieldAddr (k := 0) (fun _ => by kernel_rfl) rfl ⟨rfl, rfl⟩) ?_
    refine a_on 19 rfl (by kernel_rfl) 21 rfl (congrArg Value.bool (decide_eq_false h9)) (fun w_ h_ => o_fieldAddr (k := 0) (fun _ => by kernel_rfl) rfl ⟨rfl, rfl⟩) ?_
    refine a_on 20 rfl (by kernel_rfl) 21 rfl (congrArg Value.bool (decide_eq_false h9)) (fun w_ h_ => o_fieldAddr (k := 1) (fun _ => by kernel_rfl) rfl ⟨rfl, rfl⟩) ?_
    refine a_on 21 rfl (by kernel_rfl) 21 rfl (congrArg Value.bool (decide_eq_false h9)) (fun w_ h_ => o_load1 (v := (.int .i64 h.cut)) Tryz.underlying3 rfl rfl h_ (seg_sub 1 rfl) (CellsAt.one rfl) ⟨rfl, rfl⟩) ?_
    have hH10 : Has E { w3 with drawn := w3.drawn + 1 } [[Hp.one b2 (.cells #[(.int .i64 pl), (.int .i64 pn)] 50 (0, 0))], [Hp.one mb (.cells #[(.int .i64 h.st), (.int .i64 h.cut), (.int .i64 h.seq), (.int .i64 h.ep), (.int .i64 h.cut), (.int .i64 h.st), (.int .i64 h.mrk), (.pointer (some ⟨db, 0, none⟩))] 95 (0, 0))]] := ((hH7.front 3 rfl).front 1 rfl).first 2 rfl
    refine a_done (by kernel_rfl) hH10 ?_
    refine r_on 22 rfl (by kernel_rfl) 21 rfl (congrArg Value.bool (decide_eq_false h9)) (o_lss (a := pn) (b := h.cut) rfl rfl ?_)
    refine r_op 23 rfl (by kernel_rfl) (o_pick_f (u := (.bool (decide (pn < h.cut)))) ((rfl : _ = _).trans (congrArg Value.bool (decide_eq_false h9))) rfl ?_)
    refine r_op 24 rfl (by kernel_rfl) (o_assign (v := (.bool (decide (pn < h.cut)))) rfl ?_)
    refine Rest.done (by kernel_rfl) ?_
    refine t_norm (hK6 _ _ ?_)
    refine c_cond rfl (fun h11 => ?_) (fun h11 => ?_)
    · -- pn < h.cut
      exfalso; omega
    · -- not: pn < h.cut
      refine wp_seq_k fun K12 hK12 => ?_
      refine Rest.region mixed (by kernel_rfl) ?_
      have hH13 : Has E { { w3 with drawn := w3.drawn + 1 } with drawn := { w3 with drawn := w3.drawn + 1 }.drawn + 1 } [[Hp.one b2 (.cells #[(.int .i64 pl), (.int .i64 pn)] 50 (0, 0))], sg, [Hp.one pb (.cells #[(.bool p.off), (.bool p.armed), (.int .i64 p.left), (.int .i64 p.uses)] 78 (0, 0))], [Hp.one mb (.cells #[(.int .i64 h.st), (.int .i64 h.cut), (.int .i64 h.seq), (.int .i64 h.ep), (.int .i64 h.cut), (.int .i64 h.st), (.int .i64 h.mrk), (.pointer (some ⟨db, 0, none⟩))] 95 (0, 0))], R] := Has0.drew hH7 _
      refine Rest.phaseA (fun w_ => Has E w_ [[Hp.one b2 (.cells #[(.int .i64 pl), (.int .i64 pn)] 50 (0, 0))], [Hp.one mb (.cells #[(.int .i64 h.st), (.int .i64 h.cut), (.int .i64 h.seq), (.int .i64 h.ep), (.int .i64 h.cut), (.int .i64 h.st), (.int .i64 h.mrk), (.pointer (some ⟨db, 0, none⟩))] 95 (0, 0))]]) 0 6 6 rfl (by decide) (by kernel_rfl) ?_
      refine a_op 0 rfl (by kernel_rfl) (fun w_ h_ => o_loadN (cs := [(.int .i64 pl), (.int .i64 pn)]) Tryz.underlying50 rfl ti50 rfl h_ (seg_sub 0 rfl) (CellsAt.one rfl) ⟨rfl, rfl⟩) ?_
      refine a_op 1 rfl (by kernel_rfl) (fun w_ h_ => o_move (v := (.pointer (some ⟨mb, 0, none⟩))) rfl ⟨rfl, rfl⟩) ?_
      refine a_op 2 rfl (by kernel_rfl) (fun w_ h_ => o_nilCheck rfl ⟨rfl, rfl⟩) ?_
      refine a_op 3 rfl (by kernel_rfl) (fun w_ h_ => o_fieldAddr (k := 0) (fun _ => by kernel_rfl) rfl ⟨rfl, rfl⟩) ?_
      refine a_op 4 rfl (by kernel_rfl) (fun w_ h_ => o_fieldAddr (k := 0) (fun _ => by kernel_rfl) rfl ⟨rfl, rfl⟩) ?_
      refine a_op 5 rfl (by kernel_rfl) (fun w_ h_ => o_loadN (cs := [(.int .i64 h.st), (.int .i64 h.cut)]) Tryz.underlying50 rfl ti50 rfl h_ (seg_sub 1 rfl) (CellsAt.one rfl) ⟨rfl, rfl⟩) ?_
      have hH14 : Has E { { w3 with drawn := w3.drawn + 1 } with drawn := { w3 with drawn := w3.drawn + 1 }.drawn + 1 } [[Hp.one b2 (.cells #[(.int .i64 pl), (.int .i64 pn)] 50 (0, 0))], [Hp.one mb (.cells #[(.int .i64 h.st), (.int .i64 h.cut), (.int .i64 h.seq), (.int .i64 h.ep), (.int .i64 h.cut), (.int .i64 h.st), (.int .i64 h.mrk), (.pointer (some ⟨db, 0, none⟩))] 95 (0, 0))]] := ((hH13.front 3 rfl).front 1 rfl).first 2 rfl
      refine a_done (by kernel_rfl) hH14 ?_
      refine r_op 6 rfl (by kernel_rfl) (o_eql50 pl pn h.st h.cut rfl rfl ?_)
      refine r_op 7 rfl (by kernel_rfl) (o_assign (v := (.bool (eqv50 pl pn h.st h.cut))) rfl ?_)
      refine Rest.done (by kernel_rfl) ?_
      refine t_norm (hK12 _ _ ?_)
      refine c_condb rfl (fun h15 => ?_) (fun h15 => ?_)
      · -- eqv50 pl pn h.st h.cut
        refine wp_seq_k fun K16 hK16 => ?_
        refine c_region ?_
        refine s_op (o_assign (v := (.int .i64 0)) rfl ?_)
        refine s_nil ?_
        refine t_norm (hK16 _ _ ?_)
        refine wp_ret ?_
        refine b_ret (t_ret (c_ret1 Tryz.results24  (v := (.int .i64 0)) rfl ?_))
        have hH17 : Has E { { w3 with drawn := w3.drawn + 1 } with drawn := { w3 with drawn := w3.drawn + 1 }.drawn + 1 } [sg, [Hp.one pb (.cells #[(.bool p.off), (.bool p.armed), (.int .i64 p.left), (.int .i64 p.uses)] 78 (0, 0))], [Hp.one mb (.cells #[(.int .i64 h.st), (.int .i64 h.cut), (.int .i64 h.seq), (.int .i64 h.ep), (.int .i64 h.cut), (.int .i64 h.st), (.int .i64 h.mrk), (.pointer (some ⟨db, 0, none⟩))] 95 (0, 0))], R] := ((((hH13.front 4 rfl).front 4 rfl).front 4 rfl).front 4 rfl).first 4 rfl
        exact ⟨rfl, hd, hH17⟩
      · -- not: eqv50 pl pn h.st h.cut
        exact absurd ((eqv50_iff _ _ _ _).2 ⟨hge, hge2⟩) (by rw [h15]; decide)
end Go.Q
namespace Go.Q
open Go.Proofs
set_option linter.unusedVariables false
set_option maxRecDepth 100000
attribute [local irreducible] wpList OK Code.wp
set_option maxHeartbeats 4000000 in
theorem keep_no {E w : World} {R sg : List Hp} {pb db mb : Nat} {p : Pw} {la : List Bs} {h : Hd} (hH : Has E w [sg, [Hp.one pb (.cells #[(.bool p.off), (.bool p.armed), (.int .i64 p.left), (.int .i64 p.uses)] 78 (0, 0))], [Hp.one mb (.cells #[(.int .i64 h.st), (.int .i64 h.cut), (.int .i64 h.seq), (.int .i64 h.ep), (.int .i64 h.cut), (.int .i64 h.st), (.int .i64 h.mrk), (.pointer (some ⟨db, 0, none⟩))] 95 (0, 0))], R]) (hd : DevAt pb sg db la []) (hg : CellsAt R 0 0 nibV) (hp : PwOk p) (hq : PwOk (useS p)) (hla : la.length ≤ 4096) {pl pn : Int} (hge : h.st ≤ pl ∧ h.cut ≤ pn) (hne : ¬ (pl = h.st ∧ pn = h.cut)) (hT : ¬ svTry la.length 0 (hdK h pl pn)) :
    Calls Tryz.prog 24 #[(.pointer (some ⟨mb, 0, none⟩)), (.agg #[(.int .i64 pl), (.int .i64 pn)])] w fun e w' => ∃ sg', e = .returned (.int .i64 1) ∧ DevAt pb sg' db la [] ∧ Has E w' [sg', [Hp.one pb (.cells #[(.bool p.off), (.bool p.armed), (.int .i64 p.left), (.int .i64 p.uses)] 78 (0, 0))], [Hp.one mb (.cells #[(.int .i64 h.st), (.int .i64 h.cut), (.int .i64 h.seq), (.int .i64 h.ep), (.int .i64 h.cut), (.int .i64 h.st), (.int .i64 h.mrk), (.pointer (some ⟨db, 0, none⟩))] 95 (0, 0))], R] := by
  refine c_enter (args := [(.pointer (some ⟨mb, 0, none⟩)), (.agg #[(.int .i64 pl), (.int .i64 pn)])]) Tryz.func24 rfl Tryz.ntmps24 (by simp) ?_
  refine wp_seq_k fun K1 hK1 => ?_
  refine c_region ?_
  refine s_op (o_box (cs := #[(.int .i64 pl), (.int .i64 pn)]) rfl rfl hH fun b2 w3 hH4 => ?_)
  refine s_op (o_assign (v := (.int .i64 0)) rfl ?_)
  refine s_nil ?_
  refine t_norm (hK1 _ _ ?_)
  refine wp_seq_k fun K5 hK5 => ?_
  refine wp_block ?_
  refine wp_seq_k fun K6 hK6 => ?_
  refine Rest.region mixed (by kernel_rfl) ?_
  have hH7 : Has E { w3 with drawn := w3.drawn + 1 } [[Hp.one b2 (.cells #[(.int .i64 pl), (.int .i64 pn)] 50 (0, 0))], sg, [Hp.one pb (.cells #[(.bool p.off), (.bool p.armed), (.int .i64 p.left), (.int .i64 p.uses)] 78 (0, 0))], [Hp.one mb (.cells #[(.int .i64 h.st), (.int .i64 h.cut), (.int .i64 h.seq), (.int .i64 h.ep), (.int .i64 h.cut), (.int .i64 h.st), (.int .i64 h.mrk), (.pointer (some ⟨db, 0, none⟩))] 95 (0, 0))], R] := Has0.drew hH4 _
  refine r_op 0 rfl (by kernel_rfl) (o_move (v := (.pointer (some ⟨mb, 0, none⟩))) rfl ?_)
  refine r_op 1 rfl (by kernel_rfl) (o_pnil (p := some _) Tryz.underlying51 rfl rfl ?_)
  refine r_op 2 rfl (by kernel_rfl) (o_move (v := (.bool false)) rfl ?_)
  refine Rest.phaseA (fun w_ => Has E w_ [[Hp.one b2 (.cells #[(.int .i64 pl), (.int .i64 pn)] 50 (0, 0))], [Hp.one mb (.cells #[(.int .i64 h.st), (.int .i64 h.cut), (.int .i64 h.seq), (.int .i64 h.ep), (.int .i64 h.cut), (.int .i64 h.st), (.int .i64 h.mrk), (.pointer (some ⟨db, 0, none⟩))] 95 (0, 0))]]) 3 11 8 rfl (by decide) (by kernel_rfl) ?_
  refine a_on 3 rfl (by kernel_rfl) 10 rfl rfl (fun w_ h_ => o_fieldAddr (k := 0) (fun _ => by kernel_rfl) rfl ⟨rfl, rfl⟩) ?_
  refine a_on 4 rfl (by kernel_rfl) 10 rfl rfl (fun w_ h_ => o_load1 (v := (.int .i64 pl)) Tryz.underlying3 rfl rfl h_ (seg_sub 0 rfl) (CellsAt.one rfl) ⟨rfl, rfl⟩) ?_
  refine a_on 5 rfl (by kernel_rfl) 10 rfl rfl (fun w_ h_ => o_move (v := (.pointer (some ⟨mb, 0, none⟩))) rfl ⟨rfl, rfl⟩) ?_
  refine a_on 6 rfl (by kernel_rfl) 10 rfl rfl (fun w_ h_ => o_nilCheck rfl ⟨rfl, rfl⟩) ?_
  refine a_on 7 rfl (by kernel_rfl) 10 rfl rfl (fun w_ h_ => o_fieldAddr (k := 0) (fun _ => by kernel_rfl) rfl ⟨rfl, rfl⟩) ?_
  refine a_on 8 rfl (by kernel_rfl) 10 rfl rfl (fun w_ h_ => o_fieldAddr (k := 0) (fun _ => by kernel_rfl) rfl ⟨rfl, rfl⟩) ?_
  refine a_on 9 rfl (by kernel_rfl) 10 rfl rfl (fun w_ h_ => o_fieldAddr (k := 0) (fun _ => by kernel_rfl) rfl ⟨rfl, rfl⟩) ?_
  refine a_on 10 rfl (by kernel_rfl) 10 rfl rfl (fun w_ h_ => o_load1 (v := (.int .i64 h.st)) Tryz.underlying3 rfl rfl h_ (seg_sub 1 rfl) (CellsAt.one rfl) ⟨rfl, rfl⟩) ?_
  have hH8 : Has E { w3 with drawn := w3.drawn + 1 } [[Hp.one b2 (.cells #[(.int .i64 pl), (.int .i64 pn)] 50 (0, 0))], [Hp.one mb (.cells #[(.int .i64 h.st), (.int .i64 h.cut), (.int .i64 h.seq), (.int .i64 h.ep), (.int .i64 h.cut), (.int .i64 h.st), (.int .i64 h.mrk), (.pointer (some ⟨db, 0, none⟩))] 95 (0, 0))]] := ((hH7.front 3 rfl).front 1 rfl).first 2 rfl
  refine a_done (by kernel_rfl) hH8 ?_
  refine r_on 11 rfl (by kernel_rfl) 10 rfl rfl (o_lss (a := pl) (b := h.st) rfl rfl ?_)
  refine r_op 12 rfl (by kernel_rfl) (o_pick_f (u := (.bool (decide (pl < h.st)))) rfl rfl ?_)
  refine r_op 13 rfl (by kernel_rfl) (o_move (v := (.bool (decide (pl < h.st)))) rfl ?_)
  refine Rest.phaseA (fun w_ => Has E w_ [[Hp.one b2 (.cells #[(.int .i64 pl), (.int .i64 pn)] 50 (0, 0))], [Hp.one mb (.cells #[(.int .i64 h.st), (.int .i64 h.cut), (.int .i64 h.seq), (.int .i64 h.ep), (.int .i64 h.cut), (.int .i64 h.st), (.int .i64 h.mrk), (.pointer (some ⟨db, 0, none⟩))] 95 (0, 0))]]) 14 22 8 rfl (by decide) (by kernel_rfl) ?_
  by_cases h9 : pl < h.st
  · -- pl < h.st
    exfalso; omega
  · -- not: pl < h.st
    refine a_on 14 rfl (by kernel_rfl) 21 rfl (congrArg Value.bool (decide_eq_false h9)) (fun w_ h_ => o_fieldAddr (k := 1) (fun _ => by kernel_rfl) rfl ⟨rfl, rfl⟩) ?_
    refine a_on 15 rfl (by kernel_rfl) 21 rfl (congrArg Value.bool (decide_eq_false h9)) (fun w_ h_ => o_load1 (v := (.int .i64 pn)) Tryz.underlying3 rfl rfl h_ (seg_sub 0 rfl) (CellsAt.one rfl) ⟨rfl, rfl⟩) ?_
    refine a_on 16 rfl (by kernel_rfl) 21 rfl (congrArg Value.bool (decide_eq_false h9)) (fun w_ h_ => o_move (v := (.pointer (some ⟨mb, 0, none⟩))) rfl ⟨rfl, rfl⟩) ?_
    refine a_on 17 rfl (by kernel_rfl) 21 rfl (congrArg Value.bool (decide_eq_false h9)) (fun w_ h_ => o_nilCheck rfl ⟨rfl, rfl⟩) ?_
    refine a_on 18 rfl (by kernel_rfl) 21 rfl (congrArg Value.bool (decide_eq_false h9)) (fun w_ h_ => o_fieldAddr (k := 0) (fun _ => by kernel_rfl) rfl ⟨rfl, rfl⟩) ?_
    refine a_on 19 rfl (by kernel_rfl) 21 rfl (congrArg Value.bool (decide_eq_false h9)) (fun w_ h_ => o_fieldAddr (k := 0) (fun _ => by kernel_rfl) rfl ⟨rfl, rfl⟩) ?_
    refine a_on 20 rfl (by kernel_rfl) 21 rfl (congrArg Value.bool (decide_eq_false h9)) (fun w_ h_ => o_fieldAddr (k := 1) (fun _ => by kernel_rfl) rfl ⟨rfl, rfl⟩) ?_
    refine a_on 21 rfl (by kernel_rfl) 21 rfl (congrArg Value.bool (decide_eq_false h9)) (fun w_ h_ => o_load1 (v := (.int .i64 h.cut)) Tryz.underlying3 rfl rfl h_ (seg_sub 1 rfl) (CellsAt.one rfl) ⟨rfl, rfl⟩) ?_
    have hH10 : Has E { w3 with drawn := w3.drawn + 1 } [[Hp.one b2 (.cells #[(.int .i64 pl), (.int .i64 pn)] 50 (0, 0))], [Hp.one mb (.cells #[(.int .i64 h.st), (.int .i64 h.cut), (.int .i64 h.seq), (.int .i64 h.ep), (.int .i64 h.cut), (.int .i64 h.st), (.int .i64 h.mrk), (.pointer (some ⟨db, 0, none⟩))] 95 (0, 0))]] := ((hH7.front 3 rfl).front 1 rfl).first 2 rfl
    refine a_done (by kernel_rfl) hH10 ?_
    refine r_on 22 rfl (by kernel_rfl) 21 rfl (congrArg Value.bool (decide_eq_false h9)) (o_lss (a := pn) (b := h.cut) rfl rfl ?_)
    refine r_op 23 rfl (by kernel_rfl) (o_pick_f (u := (.bool (decide (pn < h.cut)))) ((rfl : _ = _).trans (congrArg Value.bool (decide_eq_false h9))) rfl ?_)
    refine r_op 24 rfl (by kernel_rfl) (o_assign (v := (.bool (decide (pn < h.cut)))) rfl ?_)
    refine Rest.done (by kernel_rfl) ?_
    refine t_norm (hK6 _ _ ?_)
    refine c_cond rfl (fun h11 => ?_) (fun h11 => ?_)
    · -- pn < h.cut
      exfalso; omega
    · -- not: pn < h.cut
      refine wp_seq_k fun K12 hK12 => ?_
      refine Rest.region mixed (by kernel_rfl) ?_
      have hH13 : Has E { { w3 with drawn := w3.drawn + 1 } with drawn := { w3 with drawn := w3.drawn + 1 }.drawn + 1 } [[Hp.one b2 (.cells #[(.int .i64 pl), (.int .i64 pn)] 50 (0, 0))], sg, [Hp.one pb (.cells #[(.bool p.off), (.bool p.armed), (.int .i64 p.left), (.int .i64 p.uses)] 78 (0, 0))], [Hp.one mb (.cells #[(.int .i64 h.st), (.int .i64 h.cut), (.int .i64 h.seq), (.int .i64 h.ep), (.int .i64 h.cut), (.int .i64 h.st), (.int .i64 h.mrk), (.pointer (some ⟨db, 0, none⟩))] 95 (0, 0))], R] := Has0.drew hH7 _
      refine Rest.phaseA (fun w_ => Has E w_ [[Hp.one b2 (.cells #[(.int .i64 pl), (.int .i64 pn)] 50 (0, 0))], [Hp.one mb (.cells #[(.int .i64 h.st), (.int .i64 h.cut), (.int .i64 h.seq), (.int .i64 h.ep), (.int .i64 h.cut), (.int .i64 h.st), (.int .i64 h.mrk), (.pointer (some ⟨db, 0, none⟩))] 95 (0, 0))]]) 0 6 6 rfl (by decide) (by kernel_rfl) ?_
      refine a_op 0 rfl (by kernel_rfl) (fun w_ h_ => o_loadN (cs := [(.int .i64 pl), (.int .i64 pn)]) Tryz.underlying50 rfl ti50 rfl h_ (seg_sub 0 rfl) (CellsAt.one rfl) ⟨rfl, rfl⟩) ?_
      refine a_op 1 rfl (by kernel_rfl) (fun w_ h_ => o_move (v := (.pointer (some ⟨mb, 0, none⟩))) rfl ⟨rfl, rfl⟩) ?_
      refine a_op 2 rfl (by kernel_rfl) (fun w_ h_ => o_nilCheck rfl ⟨rfl, rfl⟩) ?_
      refine a_op 3 rfl (by kernel_rfl) (fun w_ h_ => o_fieldAddr (k := 0) (fun _ => by kernel_rfl) rfl ⟨rfl, rfl⟩) ?_
      refine a_op 4 rfl (by kernel_rfl) (fun w_ h_ => o_fieldAddr (k := 0) (fun _ => by kernel_rfl) rfl ⟨rfl, rfl⟩) ?_
      refine a_op 5 rfl (by kernel_rfl) (fun w_ h_ => o_loadN (cs := [(.int .i64 h.st), (.int .i64 h.cut)]) Tryz.underlying50 rfl ti50 rfl h_ (seg_sub 1 rfl) (CellsAt.one rfl) ⟨rfl, rfl⟩) ?_
      have hH14 : Has E { { w3 with drawn := w3.drawn + 1 } with drawn := { w3 with drawn := w3.drawn + 1 }.drawn + 1 } [[Hp.one b2 (.cells #[(.int .i64 pl), (.int .i64 pn)] 50 (0, 0))], [Hp.one mb (.cells #[(.int .i64 h.st), (.int .i64 h.cut), (.int .i64 h.seq), (.int .i64 h.ep), (.int .i64 h.cut), (.int .i64 h.st), (.int .i64 h.mrk), (.pointer (some ⟨db, 0, none⟩))] 95 (0, 0))]] := ((hH13.front 3 rfl).front 1 rfl).first 2 rfl
      refine a_done (by kernel_rfl) hH14 ?_
      refine r_op 6 rfl (by kernel_rfl) (o_eql50 pl pn h.st h.cut rfl rfl ?_)
      refine r_op 7 rfl (by kernel_rfl) (o_assign (v := (.bool (eqv50 pl pn h.st h.cut))) rfl ?_)
      refine Rest.done (by kernel_rfl) ?_
      refine t_norm (hK12 _ _ ?_)
      refine c_condb rfl (fun h15 => ?_) (fun h15 => ?_)
      · -- eqv50 pl pn h.st h.cut
        exact absurd ((eqv50_iff _ _ _ _).1 h15) hne
      · -- not: eqv50 pl pn h.st h.cut
        refine wp_skip ?_
        refine b_norm ?_
        refine t_norm (hK5 _ _ ?_)
        refine wp_seq_k fun K16 hK16 => ?_
        refine Rest.region mixed (by kernel_rfl) ?_
        have hH17 : Has E { { { w3 with drawn := w3.drawn + 1 } with drawn := { w3 with drawn := w3.drawn + 1 }.drawn + 1 } with drawn := { { w3 with drawn := w3.drawn + 1 } with drawn := { w3 with drawn := w3.drawn + 1 }.drawn + 1 }.drawn + 1 } [[Hp.one b2 (.cells #[(.int .i64 pl), (.int .i64 pn)] 50 (0, 0))], sg, [Hp.one pb (.cells #[(.bool p.off), (.bool p.armed), (.int .i64 p.left), (.int .i64 p.uses)] 78 (0, 0))], [Hp.one mb (.cells #[(.int .i64 h.st), (.int .i64 h.cut), (.int .i64 h.seq), (.int .i64 h.ep), (.int .i64 h.cut), (.int .i64 h.st), (.int .i64 h.mrk), (.pointer (some ⟨db, 0, none⟩))] 95 (0, 0))], R] := Has0.drew hH13 _
        refine Rest.phaseA (fun w_ => Has E w_ [[Hp.one b2 (.cells #[(.int .i64 pl), (.int .i64 pn)] 50 (0, 0))], [Hp.one mb (.cells #[(.int .i64 h.st), (.int .i64 h.cut), (.int .i64 h.seq), (.int .i64 h.ep), (.int .i64 h.cut), (.int .i64 h.st), (.int .i64 h.mrk), (.pointer (some ⟨db, 0, none⟩))] 95 (0, 0))]]) 0 21 21 rfl (by decide) (by kernel_rfl) ?_
        refine a_op 0 rfl (by kernel_rfl) (fun w_ h_ => o_move (v := (.pointer (some ⟨mb, 0, none⟩))) rfl ⟨rfl, rfl⟩) ?_
        refine a_op 1 rfl (by kernel_rfl) (fun w_ h_ => o_nilCheck rfl ⟨rfl, rfl⟩) ?_
        refine a_op 2 rfl (by kernel_rfl) (fun w_ h_ => o_fieldAddr (k := 7) (fun _ => by kernel_rfl) rfl ⟨rfl, rfl⟩) ?_
        refine a_op 3 rfl (by kernel_rfl) (fun w_ h_ => o_load1 (v := (.pointer (some ⟨db, 0, none⟩))) Tryz.underlying34 rfl rfl h_ (seg_sub 1 rfl) (CellsAt.one rfl) ⟨rfl, rfl⟩) ?_
        refine a_op 4 rfl (by kernel_rfl) (fun w_ h_ => o_move (v := (.pointer (some ⟨mb, 0, none⟩))) rfl ⟨rfl, rfl⟩) ?_
        refine a_op 5 rfl (by kernel_rfl) (fun w_ h_ => o_nilCheck rfl ⟨rfl, rfl⟩) ?_
        refine a_op 6 rfl (by kernel_rfl) (fun w_ h_ => o_fieldAddr (k := 0) (fun _ => by kernel_rfl) rfl ⟨rfl, rfl⟩) ?_
        refine a_op 7 rfl (by kernel_rfl) (fun w_ h_ => o_fieldAddr (k := 2) (fun _ => by kernel_rfl) rfl ⟨rfl, rfl⟩) ?_
        refine a_op 8 rfl (by kernel_rfl) (fun w_ h_ => o_fieldAddr (k := 2) (fun _ => by kernel_rfl) rfl ⟨rfl, rfl⟩) ?_
        refine a_op 9 rfl (by kernel_rfl) (fun w_ h_ => o_load1 (v := (.int .i64 h.seq)) Tryz.underlying3 rfl rfl h_ (seg_sub 1 rfl) (CellsAt.one rfl) ⟨rfl, rfl⟩) ?_
        refine a_op 10 rfl (by kernel_rfl) (fun w_ h_ => o_fieldAddr (k := 0) (fun _ => by kernel_rfl) rfl ⟨rfl, rfl⟩) ?_
        refine a_op 11 rfl (by kernel_rfl) (fun w_ h_ => o_load1 (v := (.int .i64 pl)) Tryz.underlying3 rfl rfl h_ (seg_sub 0 rfl) (CellsAt.one rfl) ⟨rfl, rfl⟩) ?_
        refine a_op 12 rfl (by kernel_rfl) (fun w_ h_ => o_fieldAddr (k := 1) (fun _ => by kernel_rfl) rfl ⟨rfl, rfl⟩) ?_
        refine a_op 13 rfl (by kernel_rfl) (fun w_ h_ => o_load1 (v := (.int .i64 pn)) Tryz.underlying3 rfl rfl h_ (seg_sub 0 rfl) (CellsAt.one rfl) ⟨rfl, rfl⟩) ?_
        refine a_op 14 rfl (by kernel_rfl) (fun w_ h_ => o_sight (v := (.agg #[(.int .i64 h.seq), (.int .i64 0), (.int .i64 pn), (.int .i64 pl), (.int .i64 0)])) (fun _ => by kernel_rfl) ⟨rfl, rfl⟩) ?_
        have hH18 : Has E { { { w3 with drawn := w3.drawn + 1 } with drawn := { w3 with drawn := w3.drawn + 1 }.drawn + 1 } with drawn := { { w3 with drawn := w3.drawn + 1 } with drawn := { w3 with drawn := w3.drawn + 1 }.drawn + 1 }.drawn + 1 } [[Hp.one b2 (.cells #[(.int .i64 pl), (.int .i64 pn)] 50 (0, 0))], [Hp.one mb (.cells #[(.int .i64 h.st), (.int .i64 h.cut), (.int .i64 h.seq), (.int .i64 h.ep), (.int .i64 h.cut), (.int .i64 h.st), (.int .i64 h.mrk), (.pointer (some ⟨db, 0, none⟩))] 95 (0, 0))]] := ((hH17.front 3 rfl).front 1 rfl).first 2 rfl
        refine a_two 15 19 (by kernel_rfl) hH18 ?_ ?_
        · -- first operation 15
          have hH19 : Has E { { { w3 with drawn := w3.drawn + 1 } with drawn := { w3 with drawn := w3.drawn + 1 }.drawn + 1 } with drawn := { { w3 with drawn := w3.drawn + 1 } with drawn := { w3 with drawn := w3.drawn + 1 }.drawn + 1 }.drawn + 1 } [[Hp.one b2 (.cells #[(.int .i64 pl), (.int .i64 pn)] 50 (0, 0))], [Hp.one mb (.cells #[(.int .i64 h.st), (.int .i64 h.cut), (.int .i64 h.seq), (.int .i64 h.ep), (.int .i64 h.cut), (.int .i64 h.st), (.int .i64 h.mrk), (.pointer (some ⟨db, 0, none⟩))] 95 (0, 0))]] := ((hH17.front 3 rfl).front 1 rfl).first 2 rfl
          refine ok_w 15 rfl (o_callf (vs := #[(.pointer (some ⟨db, 0, none⟩)), (.int .i64 0), (.agg #[(.int .i64 h.seq), (.int .i64 0), (.int .i64 pn), (.int .i64 pl), (.int .i64 0)])]) ca26 rfl (args3 rfl rfl rfl) (hsave_no ((hH17.front 2 rfl).front 2 rfl).all2 hd (hg.mono (seg_sub 2 rfl)) hp hq hla (x := 0) (h := (Hd.mk h.seq 0 pn pl 0)) hT) ?_)
          rintro _ w24 ⟨sg20, rfl, hd21, hX22⟩
          refine ⟨_, rfl, ?_⟩
          have hH23 : Has E w24 [sg20, [Hp.one pb (.cells #[(.bool p.off), (.bool p.armed), (.int .i64 p.left), (.int .i64 p.uses)] 78 (0, 0))], [Hp.one b2 (.cells #[(.int .i64 pl), (.int .i64 pn)] 50 (0, 0))], [Hp.one mb (.cells #[(.int .i64 h.st), (.int .i64 h.cut), (.int .i64 h.seq), (.int .i64 h.ep), (.int .i64 h.cut), (.int .i64 h.st), (.int .i64 h.mrk), (.pointer (some ⟨db, 0, none⟩))] 95 (0, 0))], R] := hX22.of_all2
          refine a_op 16 rfl (by kernel_rfl) (fun w_ h_ => o_move (v := (.tuple #[(.agg #[(.int .i64 hdZ.seq), (.int .i64 hdZ.ep), (.int .i64 hdZ.cut), (.int .i64 hdZ.st), (.int .i64 hdZ.mrk)]), (.int .i64 (1 : Int))])) rfl ⟨rfl, rfl⟩) ?_
          refine a_op 17 rfl (by kernel_rfl) (fun w_ h_ => o_extract (v := (.agg #[(.int .i64 hdZ.seq), (.int .i64 hdZ.ep), (.int .i64 hdZ.cut), (.int .i64 hdZ.st), (.int .i64 hdZ.mrk)])) rfl rfl ⟨rfl, rfl⟩) ?_
          refine a_op 18 rfl (by kernel_rfl) (fun w_ h_ => o_extract (v := (.int .i64 (1 : Int))) rfl rfl ⟨rfl, rfl⟩) ?_
          have hH25 : Has E w24 [[Hp.one b2 (.cells #[(.int .i64 pl), (.int .i64 pn)] 50 (0, 0))], [Hp.one mb (.cells #[(.int .i64 h.st), (.int .i64 h.cut), (.int .i64 h.seq), (.int .i64 h.ep), (.int .i64 h.cut), (.int .i64 h.st), (.int .i64 h.mrk), (.pointer (some ⟨db, 0, none⟩))] 95 (0, 0))]] := ((hH23.front 3 rfl).front 3 rfl).first 2 rfl
          refine a_w 19 rfl (by kernel_rfl) hH25 (o_alloc (cs := #[(.int .i64 0), (.int .i64 0), (.int .i64 0), (.int .i64 0), (.int .i64 0)]) ti27 rfl hH23 fun b26 w27 hH28 => ?_)
          have hH29 : Has E w27 [[Hp.one b2 (.cells #[(.int .i64 pl), (.int .i64 pn)] 50 (0, 0))], [Hp.one mb (.cells #[(.int .i64 h.st), (.int .i64 h.cut), (.int .i64 h.seq), (.int .i64 h.ep), (.int .i64 h.cut), (.int .i64 h.st), (.int .i64 h.mrk), (.pointer (some ⟨db, 0, none⟩))] 95 (0, 0))]] := ((hH28.front 4 rfl).front 4 rfl).first 2 rfl
          refine a_we 20 rfl (by kernel_rfl) hH29 (o_storeN (vs := [(.int .i64 hdZ.seq), (.int .i64 hdZ.ep), (.int .i64 hdZ.cut), (.int .i64 hdZ.st), (.int .i64 hdZ.mrk)]) (c' := #[(.int .i64 hdZ.seq), (.int .i64 hdZ.ep), (.int .i64 hdZ.cut), (.int .i64 hdZ.st), (.int .i64 hdZ.mrk)]) ti27 rfl rfl rfl rfl (by intro u hu; simp only [List.mem_cons, List.not_mem_nil, or_false] at hu; rcases hu with rfl | rfl | rfl | rfl | rfl <;> first | rfl) (by simp) (by kernel_rfl) (hH28.front 0 rfl) fun w30 hH31 => ?_)
          have hH32 : Has E w30 [[Hp.one b2 (.cells #[(.int .i64 pl), (.int .i64 pn)] 50 (0, 0))], [Hp.one mb (.cells #[(.int .i64 h.st), (.int .i64 h.cut), (.int .i64 h.seq), (.int .i64 h.ep), (.int .i64 h.cut), (.int .i64 h.st), (.int .i64 h.mrk), (.pointer (some ⟨db, 0, none⟩))] 95 (0, 0))]] := ((hH31.front 4 rfl).front 4 rfl).first 2 rfl
          refine a_done (by kernel_rfl) hH32 ?_
          refine r_op 21 rfl (by kernel_rfl) (o_assign (v := (.int .i64 (1 : Int))) rfl ?_)
          refine Rest.done (by kernel_rfl) ?_
          refine t_norm (hK16 _ _ ?_)
          refine wp_seq_k fun K33 hK33 => ?_
          refine wp_seq_k fun K34 hK34 => ?_
          refine c_region ?_
          refine s_op (o_move (v := (.int .i64 (1 : Int))) rfl ?_)
          refine s_op (o_eql (a := (1 : Int)) (b := 0) rfl rfl ?_)
          refine s_nil ?_
          refine t_norm (hK34 _ _ ?_)
          refine c_cond rfl (fun h35 => ?_) (fun h35 => ?_)
          · -- (1 : Int) = 0
            exact absurd h35 (by decide)
          · -- not: (1 : Int) = 0
            refine wp_skip ?_
            refine t_norm (hK33 _ _ ?_)
            refine wp_seq_k fun K36 hK36 => ?_
            refine c_region ?_
            refine s_op (o_move (v := (.int .i64 (1 : Int))) rfl ?_)
            refine s_op (o_assign (v := (.int .i64 (1 : Int))) rfl ?_)
            refine s_nil ?_
            refine t_norm (hK36 _ _ ?_)
            refine wp_ret ?_
            refine c_ret1 Tryz.results24  (v := (.int .i64 (1 : Int))) rfl ?_
            have hH37 : Has E w30 [sg20, [Hp.one pb (.cells #[(.bool p.off), (.bool p.armed), (.int .i64 p.left), (.int .i64 p.uses)] 78 (0, 0))], [Hp.one mb (.cells #[(.int .i64 h.st), (.int .i64 h.cut), (.int .i64 h.seq), (.int .i64 h.ep), (.int .i64 h.cut), (.int .i64 h.st), (.int .i64 h.mrk), (.pointer (some ⟨db, 0, none⟩))] 95 (0, 0))], R] := ((((hH31.front 5 rfl).front 5 rfl).front 4 rfl).front 4 rfl).first 4 rfl
            exact ⟨_, rfl, hd21, hH37⟩
        · -- first operation 19
          have hH38 : Has E { { { w3 with drawn := w3.drawn + 1 } with drawn := { w3 with drawn := w3.drawn + 1 }.drawn + 1 } with drawn := { { w3 with drawn := w3.drawn + 1 } with drawn := { w3 with drawn := w3.drawn + 1 }.drawn + 1 }.drawn + 1 } [[Hp.one b2 (.cells #[(.int .i64 pl), (.int .i64 pn)] 50 (0, 0))], [Hp.one mb (.cells #[(.int .i64 h.st), (.int .i64 h.cut), (.int .i64 h.seq), (.int .i64 h.ep), (.int .i64 h.cut), (.int .i64 h.st), (.int .i64 h.mrk), (.pointer (some ⟨db, 0, none⟩))] 95 (0, 0))]] := ((hH17.front 3 rfl).front 1 rfl).first 2 rfl
          refine ok_w 19 rfl (o_alloc (cs := #[(.int .i64 0), (.int .i64 0), (.int .i64 0), (.int .i64 0), (.int .i64 0)]) ti27 rfl hH17 fun b39 w40 hH41 => ?_)
          have hH42 : Has E w40 [[Hp.one b2 (.cells #[(.int .i64 pl), (.int .i64 pn)] 50 (0, 0))], [Hp.one mb (.cells #[(.int .i64 h.st), (.int .i64 h.cut), (.int .i64 h.seq), (.int .i64 h.ep), (.int .i64 h.cut), (.int .i64 h.st), (.int .i64 h.mrk), (.pointer (some ⟨db, 0, none⟩))] 95 (0, 0))]] := ((hH41.front 4 rfl).front 2 rfl).first 2 rfl
          refine a_w 15 rfl (by kernel_rfl) hH42 (o_callf (vs := #[(.pointer (some ⟨db, 0, none⟩)), (.int .i64 0), (.agg #[(.int .i64 h.seq), (.int .i64 0), (.int .i64 pn), (.int .i64 pl), (.int .i64 0)])]) ca26 rfl (args3 rfl rfl rfl) (hsave_no ((hH41.front 3 rfl).front 3 rfl).all2 hd (hg.mono (seg_sub 3 rfl)) hp hq hla (x := 0) (h := (Hd.mk h.seq 0 pn pl 0)) hT) ?_)
          rintro _ w47 ⟨sg43, rfl, hd44, hX45⟩
          refine ⟨_, rfl, ?_⟩
          have hH46 : Has E w47 [sg43, [Hp.one pb (.cells #[(.bool p.off), (.bool p.armed), (.int .i64 p.left), (.int .i64 p.uses)] 78 (0, 0))], [Hp.one b39 (.cells #[(.int .i64 0), (.int .i64 0), (.int .i64 0), (.int .i64 0), (.int .i64 0)] 27 (0, 0))], [Hp.one b2 (.cells #[(.int .i64 pl), (.int .i64 pn)] 50 (0, 0))], [Hp.one mb (.cells #[(.int .i64 h.st), (.int .i64 h.cut), (.int .i64 h.seq), (.int .i64 h.ep), (.int .i64 h.cut), (.int .i64 h.st), (.int .i64 h.mrk), (.pointer (some ⟨db, 0, none⟩))] 95 (0, 0))], R] := hX45.of_all2
          refine a_op 16 rfl (by kernel_rfl) (fun w_ h_ => o_move (v := (.tuple #[(.agg #[(.int .i64 hdZ.seq), (.int .i64 hdZ.ep), (.int .i64 hdZ.cut), (.int .i64 hdZ.st), (.int .i64 hdZ.mrk)]), (.int .i64 (1 : Int))])) rfl ⟨rfl, rfl⟩) ?_
          refine a_op 17 rfl (by kernel_rfl) (fun w_ h_ => o_extract (v := (.agg #[(.int .i64 hdZ.seq), (.int .i64 hdZ.ep), (.int .i64 hdZ.cut), (.int .i64 hdZ.st), (.int .i64 hdZ.mrk)])) rfl rfl ⟨rfl, rfl⟩) ?_
          refine a_op 18 rfl (by kernel_rfl) (fun w_ h_ => o_extract (v := (.int .i64 (1 : Int))) rfl rfl ⟨rfl, rfl⟩) ?_
          have hH48 : Has E w47 [[Hp.one b2 (.cells #[(.int .i64 pl), (.int .i64 pn)] 50 (0, 0))], [Hp.one mb (.cells #[(.int .i64 h.st), (.int .i64 h.cut), (.int .i64 h.seq), (.int .i64 h.ep), (.int .i64 h.cut), (.int .i64 h.st), (.int .i64 h.mrk), (.pointer (some ⟨db, 0, none⟩))] 95 (0, 0))]] := ((hH46.front 4 rfl).front 4 rfl).first 2 rfl
          refine a_we 20 rfl (by kernel_rfl) hH48 (o_storeN (vs := [(.int .i64 hdZ.seq), (.int .i64 hdZ.ep), (.int .i64 hdZ.cut), (.int .i64 hdZ.st), (.int .i64 hdZ.mrk)]) (c' := #[(.int .i64 hdZ.seq), (.int .i64 hdZ.ep), (.int .i64 hdZ.cut), (.int .i64 hdZ.st), (.int .i64 hdZ.mrk)]) ti27 rfl rfl rfl rfl (by intro u hu; simp only [List.mem_cons, List.not_mem_nil, or_false] at hu; rcases hu with rfl | rfl | rfl | rfl | rfl <;> first | rfl) (by simp) (by kernel_rfl) (hH46.front 2 rfl) fun w49 hH50 => ?_)
          have hH51 : Has E w49 [[Hp.one b2 (.cells #[(.int .i64 pl), (.int .i64 pn)] 50 (0, 0))], [Hp.one mb (.cells #[(.int .i64 h.st), (.int .i64 h.cut), (.int .i64 h.seq), (.int .i64 h.ep), (.int .i64 h.cut), (.int .i64 h.st), (.int .i64 h.mrk), (.pointer (some ⟨db, 0, none⟩))] 95 (0, 0))]] := ((hH50.front 4 rfl).front 4 rfl).first 2 rfl
          refine a_done (by kernel_rfl) hH51 ?_
          refine r_op 21 rfl (by kernel_rfl) (o_assign (v := (.int .i64 (1 : Int))) rfl ?_)
          refine Rest.done (by kernel_rfl) ?_
          refine t_norm (hK16 _ _ ?_)
          refine wp_seq_k fun K52 hK52 => ?_
          refine wp_seq_k fun K53 hK53 => ?_
          refine c_region ?_
          refine s_op (o_move (v := (.int .i64 (1 : Int))) rfl ?_)
          refine s_op (o_eql (a := (1 : Int)) (b := 0) rfl rfl ?_)
          refine s_nil ?_
          refine t_norm (hK53 _ _ ?_)
          refine c_cond rfl (fun h54 => ?_) (fun h54 => ?_)
          · -- (1 : Int) = 0
            exact absurd h54 (by decide)
          · -- not: (1 : Int) = 0
            refine wp_skip ?_
            refine t_norm (hK52 _ _ ?_)
            refine wp_seq_k fun K55 hK55 => ?_
            refine c_region ?_
            refine s_op (o_move (v := (.int .i64 (1 : Int))) rfl ?_)
            refine s_op (o_assign (v := (.int .i64 (1 : Int))) rfl ?_)
            refine s_nil ?_
            refine t_norm (hK55 _ _ ?_)
            refine wp_ret ?_
            refine c_ret1 Tryz.results24  (v := (.int .i64 (1 : Int))) rfl ?_
            have hH56 : Has E w49 [sg43, [Hp.one pb (.cells #[(.bool p.off), (.bool p.armed), (.int .i64 p.left), (.int .i64 p.uses)] 78 (0, 0))], [Hp.one mb (.cells #[(.int .i64 h.st), (.int .i64 h.cut), (.int .i64 h.seq), (.int .i64 h.ep), (.int .i64 h.cut), (.int .i64 h.st), (.int .i64 h.mrk), (.pointer (some ⟨db, 0, none⟩))] 95 (0, 0))], R] := ((((hH50.front 5 rfl).front 5 rfl).front 4 rfl).front 4 rfl).first 4 rfl
            exact ⟨_, rfl, hd44, hH56⟩
end Go.Q
namespace Go.Q
open Go.Proofs
set_option linter.unusedVariables false
set_option maxRecDepth 100000
attribute [local irreducible] wpList OK Code.wp
set_option maxHeartbeats 4000000 in
theorem small19_c {E w : World} {R : List Hp} {n : Int}  (hH : Has E w [R]) :
    Calls Tryz.prog 28 #[(.int .i64 n)] w fun e w' => e = .returned (.bool (decide (0 ≤ n ∧ n ≤ 4611686018427387903))) ∧ Has E w' [R] := by
  refine c_enter (args := [(.int .i64 n)]) Tryz.func28 rfl Tryz.ntmps28 (by simp) ?_
  refine wp_seq_k fun K1 hK1 => ?_
  refine c_region ?_
  refine s_op (o_assign (v := (.bool false)) rfl ?_)
  refine s_nil ?_
  refine t_norm (hK1 _ _ ?_)
  refine wp_seq_k fun K2 hK2 => ?_
  refine c_region ?_
  refine s_op (o_move (v := (.int .i64 n)) rfl ?_)
  refine s_op (o_geq (a := n) (b := 0) rfl rfl ?_)
  refine s_op (o_move (v := (.bool (decide (0 ≤ n)))) rfl ?_)
  by_cases h3 : 0 ≤ n
  · -- 0 ≤ n
    refine s_on 5 rfl (congrArg Value.bool (decide_eq_true h3)) (o_move (v := (.int .i64 n)) rfl ?_)
    refine s_on 5 rfl (congrArg Value.bool (decide_eq_true h3)) (o_leq (a := n) (b := 4611686018427387903) rfl rfl ?_)
    refine s_op (o_pick_t (u := (.bool (decide (n ≤ 4611686018427387903)))) ((rfl : _ = _).trans (congrArg Value.bool (decide_eq_true h3))) rfl ?_)
    refine s_op (o_assign (v := (.bool (decide (n ≤ 4611686018427387903)))) rfl ?_)
    refine s_nil ?_
    refine t_norm (hK2 _ _ ?_)
    refine wp_ret ?_
    refine c_ret1 Tryz.results28  (v := (.bool (decide (n ≤ 4611686018427387903)))) rfl ?_
    have q4 : decide (0 ≤ n ∧ n ≤ 4611686018427387903) = decide (n ≤ 4611686018427387903) := by first | (rw [decide_eq_decide]; omega) | (rw [decide_eq_false_iff_not]; omega)
    exact ⟨by rw [q4], hH⟩
  · -- not: 0 ≤ n
    refine s_off (b' := false) 5 rfl (congrArg Value.bool (decide_eq_false h3)) rfl ?_
    refine s_off (b' := false) 5 rfl (congrArg Value.bool (decide_eq_false h3)) rfl ?_
    refine s_op (o_pick_f (u := (.bool false)) ((rfl : _ = _).trans (congrArg Value.bool (decide_eq_false h3))) rfl ?_)
    refine s_op (o_assign (v := (.bool false)) rfl ?_)
    refine s_nil ?_
    refine t_norm (hK2 _ _ ?_)
    refine wp_ret ?_
    refine c_ret1 Tryz.results28  (v := (.bool false)) rfl ?_
    have q5 : decide (0 ≤ n ∧ n ≤ 4611686018427387903) = false := by first | (rw [decide_eq_decide]; omega) | (rw [decide_eq_false_iff_not]; omega)
    exact ⟨by rw [q5], hH⟩
end Go.Q
namespace Go.Q
open Go.Proofs
set_option linter.unusedVariables false
set_option maxRecDepth 100000
attribute [local irreducible] wpList OK Code.wp
set_option maxHeartbeats 4000000 in
theorem PointKeeps_c {E w : World} {R : List Hp} (hH : Has E w [R]) (hg : CellsAt R 0 0 nibV) {v : Value} {l : List (Int × Int)} (hv : Sl R 2 v l.length (l.flatMap ptC)) :
    Calls Tryz.prog 7 #[v] w fun e w' => e = .returned (.bool true) ∧ Has E w' [R] := by
  have hn_ := hv.le
  refine c_enter (args := [v]) Tryz.func7 rfl Tryz.ntmps7 (by simp) ?_
  refine wp_seq_k fun K1 hK1 => ?_
  refine c_region ?_
  refine s_op (o_assign (v := (.bool false)) rfl ?_)
  refine s_nil ?_
  refine t_norm (hK1 _ _ ?_)
  refine wp_seq_k fun K2 hK2 => ?_
  refine wp_seq_k fun K3 hK3 => ?_
  refine c_region ?_
  refine s_op (o_move (v := v) rfl ?_)
  refine s_op (o_lenS Tryz.underlying58 rfl hv ?_)
  refine s_op (o_gtr (a := ((l.length : Nat) : Int)) (b := 30) rfl rfl ?_)
  refine s_op (o_move (v := (.bool (decide (30 < ((l.length : Nat) : Int))))) rfl ?_)
  by_cases h4 : 30 < ((l.length : Nat) : Int)
  · -- 30 < ((l.length : Nat) : Int)
    refine s_off (b' := true) 15 rfl (congrArg Value.bool (decide_eq_true h4)) rfl ?_
    refine s_off (b' := true) 15 rfl (congrArg Value.bool (decide_eq_true h4)) rfl ?_
    refine s_op (o_pick_t (u := (.bool true)) ((rfl : _ = _).trans (congrArg Value.bool (decide_eq_true h4))) rfl ?_)
    refine s_nil ?_
    refine t_norm (hK3 _ _ ?_)
    refine c_true rfl rfl ?_
    refine wp_seq_k fun K5 hK5 => ?_
    refine c_region ?_
    refine s_op (o_callf (vs := #[]) ca20 rfl (args0) (awake19_c hH.all (hg.mono (seg_sub 0 rfl))) ?_)
    rintro _ w8 ⟨rfl, hX6⟩
    refine ⟨_, rfl, ?_⟩
    have hH7 := hX6.of_all
    refine s_op (o_assign (v := (.bool true)) rfl ?_)
    refine s_nil ?_
    refine t_norm (hK5 _ _ ?_)
    refine wp_ret ?_
    refine t_ret (c_ret1 Tryz.results7  (v := (.bool true)) rfl ?_)
    exact ⟨by first | rfl | (rw [decide_eq_true rfl]), hH7⟩
  · -- not: 30 < ((l.length : Nat) : Int)
    refine s_on 15 rfl (congrArg Value.bool (decide_eq_false h4)) (o_callf (vs := #[]) ca20 rfl (args0) (awake19_c hH.all (hg.mono (seg_sub 0 rfl))) ?_)
    rintro _ w11 ⟨rfl, hX9⟩
    refine ⟨_, rfl, ?_⟩
    have hH10 := hX9.of_all
    refine s_on 15 rfl (congrArg Value.bool (decide_eq_false h4)) (o_not rfl ?_)
    refine s_op (o_pick_f (u := (.bool false)) ((rfl : _ = _).trans (congrArg Value.bool (decide_eq_false h4))) rfl ?_)
    refine s_nil ?_
    refine t_norm (hK3 _ _ ?_)
    refine c_false rfl rfl ?_
    refine wp_skip ?_
    refine t_norm (hK2 _ _ ?_)
    refine wp_seq_k fun K12 hK12 => ?_
    refine c_region ?_
    refine s_op (o_callf (vs := #[(.pointer none), (.int .i64 3)]) ca15 rfl (args2 rfl rfl) (new_nil hH10.all (n := 3) (by decide)) ?_)
    rintro _ w19 ⟨db13, pb14, sg15, rfl, hd16, hX17⟩
    refine ⟨_, rfl, ?_⟩
    have hH18 : Has E w19 [sg15, [Hp.one pb14 (.cells #[(.bool (Pw.mk false false 0 0).off), (.bool (Pw.mk false false 0 0).armed), (.int .i64 (Pw.mk false false 0 0).left), (.int .i64 (Pw.mk false false 0 0).uses)] 78 (0, 0))], R] := hX17.of_all2
    refine s_op (o_assign (v := (.pointer (some ⟨db13, 0, none⟩))) rfl ?_)
    refine s_nil ?_
    refine t_norm (hK12 _ _ ?_)
    refine wp_seq_k fun K20 hK20 => ?_
    refine c_region ?_
    refine s_op (o_move (v := (.pointer (some ⟨db13, 0, none⟩))) rfl ?_)
    refine s_op (o_callf (vs := #[(.pointer (some ⟨db13, 0, none⟩))]) ca22 rfl (args1 rfl) (fmt_ok (p := (Pw.mk false false 0 0)) (la := (List.replicate 3 blankS)) ((hH18.front 1 rfl).front 1 rfl).all2 hd16 (hg.mono (seg_sub 0 rfl)) (by unfold PwOk; decide +kernel) (by unfold PwOk; decide +kernel) (by decide +kernel) (by decide +kernel) (by decide +kernel) (by decide +kernel)) ?_)
    rintro _ w26 ⟨mb21, sg22, rfl, hd23, hX24⟩
    refine ⟨_, rfl, ?_⟩
    have hH25 : Has E w26 [[Hp.one mb21 (.cells #[(.int .i64 (hdUp (Hd.mk 0 0 0 0 0)).st), (.int .i64 (hdUp (Hd.mk 0 0 0 0 0)).cut), (.int .i64 (hdUp (Hd.mk 0 0 0 0 0)).seq), (.int .i64 (hdUp (Hd.mk 0 0 0 0 0)).ep), (.int .i64 (hdUp (Hd.mk 0 0 0 0 0)).cut), (.int .i64 (hdUp (Hd.mk 0 0 0 0 0)).st), (.int .i64 (hdUp (Hd.mk 0 0 0 0 0)).mrk), (.pointer (some ⟨db13, 0, none⟩))] 95 (0, 0))], sg22, [Hp.one pb14 (.cells #[(.bool (useS (useS (Pw.mk false false 0 0))).off), (.bool (useS (useS (Pw.mk false false 0 0))).armed), (.int .i64 (useS (useS (Pw.mk false false 0 0))).left), (.int .i64 (useS (useS (Pw.mk false false 0 0))).uses)] 78 (0, 0))], R] := hX24.of_all3
    refine s_op (o_move (v := (.tuple #[(.pointer (some ⟨mb21, 0, none⟩)), (.int .i64 (0 : Int))])) rfl ?_)
    refine s_op (o_extract (v := (.pointer (some ⟨mb21, 0, none⟩))) rfl rfl ?_)
    refine s_op (o_extract (v := (.int .i64 (0 : Int))) rfl rfl ?_)
    refine s_op (o_assign (v := (.pointer (some ⟨mb21, 0, none⟩))) rfl ?_)
    refine s_op (o_assign (v := (.int .i64 (0 : Int))) rfl ?_)
    refine s_nil ?_
    refine t_norm (hK20 _ _ ?_)
    refine wp_seq_k fun K27 hK27 => ?_
    refine wp_seq_k fun K28 hK28 => ?_
    refine c_region ?_
    refine s_op (o_move (v := (.pointer (some ⟨mb21, 0, none⟩))) rfl ?_)
    refine s_op (o_pnil (p := some _) Tryz.underlying51 rfl rfl ?_)
    refine s_op (o_move (v := (.bool false)) rfl ?_)
    refine s_on 28 rfl rfl (o_move (v := (.int .i64 (0 : Int))) rfl ?_)
    refine s_on 28 rfl rfl (o_neq (a := (0 : Int)) (b := 0) rfl rfl ?_)
    refine s_op (o_pick_f (u := (.bool (decide ((0 : Int) ≠ 0)))) rfl rfl ?_)
    refine s_op (o_move (v := (.bool (decide ((0 : Int) ≠ 0)))) rfl ?_)
    by_cases h29 : (0 : Int) ≠ 0
    · -- (0 : Int) ≠ 0
      exact absurd h29 (by decide)
    · -- not: (0 : Int) ≠ 0
      refine s_on 32 rfl (congrArg Value.bool (decide_eq_false h29)) (o_move (v := (.pointer (some ⟨mb21, 0, none⟩))) rfl ?_)
      refine s_on 32 rfl (congrArg Value.bool (decide_eq_false h29)) (o_callf (vs := #[(.pointer (some ⟨mb21, 0, none⟩))]) ca25 rfl (args1 rfl) (mpoint_c (h := (hdUp (Hd.mk 0 0 0 0 0))) (db := db13) hH25.all ((CellsAt.one rfl).mono (seg_sub 0 rfl))) ?_)
      rintro _ w32 ⟨rfl, hX30⟩
      refine ⟨_, rfl, ?_⟩
      have hH31 := hX30.of_all
      refine s_on 32 rfl (congrArg Value.bool (decide_eq_false h29)) (o_sight (v := (.agg #[(.int .i64 0), (.int .i64 0)])) (fun _ => by kernel_rfl) ?_)
      refine s_on 32 rfl (congrArg Value.bool (decide_eq_false h29)) (o_neq50 ((hdUp (Hd.mk 0 0 0 0 0)).st) ((hdUp (Hd.mk 0 0 0 0 0)).cut) (0 : Int) (0 : Int) rfl rfl ?_)
      refine s_op (o_pick_f (u := (.bool (!(eqv50 ((hdUp (Hd.mk 0 0 0 0 0)).st) ((hdUp (Hd.mk 0 0 0 0 0)).cut) (0 : Int) (0 : Int))))) ((rfl : _ = _).trans (congrArg Value.bool (decide_eq_false h29))) rfl ?_)
      refine s_nil ?_
      refine t_norm (hK28 _ _ ?_)
      refine c_condb rfl (fun h33 => ?_) (fun h33 => ?_)
      · -- !(eqv50 ((hdUp (Hd.mk 0 0 0 0 0)).st) ((hdUp (Hd.mk 0 0 0 0 0)).cut) (0 : Int) (0 : Int))
        have h33_n : (eqv50 ((hdUp (Hd.mk 0 0 0 0 0)).st) ((hdUp (Hd.mk 0 0 0 0 0)).cut) (0 : Int) (0 : Int)) = false := by simpa using h33
        exact absurd h33 (by decide)
      · -- not: !(eqv50 ((hdUp (Hd.mk 0 0 0 0 0)).st) ((hdUp (Hd.mk 0 0 0 0 0)).cut) (0 : Int) (0 : Int))
        have h33_n : (eqv50 ((hdUp (Hd.mk 0 0 0 0 0)).st) ((hdUp (Hd.mk 0 0 0 0 0)).cut) (0 : Int) (0 : Int)) = true := by simpa using h33
        refine wp_skip ?_
        refine t_norm (hK27 _ _ ?_)
        refine wp_seq_k fun K34 hK34 => ?_
        refine c_region ?_
        refine s_op (o_sight (v := (.agg #[(.int .i64 0), (.int .i64 0)])) (fun _ => by kernel_rfl) ?_)
        refine s_op (o_alloc (cs := #[(.int .i64 0), (.int .i64 0)]) ti50 rfl hH31 fun b35 w36 hH37 => ?_)
        refine s_eff (o_storeN (vs := [(.int .i64 0), (.int .i64 0)]) (c' := #[(.int .i64 0), (.int .i64 0)]) ti50 rfl rfl rfl rfl (by intro u hu; simp only [List.mem_cons, List.not_mem_nil, or_false] at hu; rcases hu with rfl | rfl <;> first | rfl) (by simp) (by kernel_rfl) (hH37.front 0 rfl) fun w38 hH39 => ?_)
        refine s_nil ?_
        refine t_norm (hK34 _ _ ?_)
        refine wp_seq_k fun K40 hK40 => ?_
        refine wp_seq_k fun K41 hK41 => ?_
        refine c_region ?_
        refine s_op (o_assign (v := (.int .i64 0)) rfl ?_)
        refine s_nil ?_
        refine t_norm (hK41 _ _ ?_)
        refine wp_block ?_
        have hH42 : Has E w38 [[Hp.one b35 (.cells #[(.int .i64 (hdUp (Hd.mk 0 0 0 0 0)).st), (.int .i64 (hdUp (Hd.mk 0 0 0 0 0)).cut)] 50 (0, 0))], [Hp.one mb21 (.cells #[(.int .i64 (hdUp (Hd.mk 0 0 0 0 0)).st), (.int .i64 (hdUp (Hd.mk 0 0 0 0 0)).cut), (.int .i64 (hdUp (Hd.mk 0 0 0 0 0)).seq), (.int .i64 (hdUp (Hd.mk 0 0 0 0 0)).ep), (.int .i64 (hdUp (Hd.mk 0 0 0 0 0)).cut), (.int .i64 (hdUp (Hd.mk 0 0 0 0 0)).st), (.int .i64 (hdUp (Hd.mk 0 0 0 0 0)).mrk), (.pointer (some ⟨db13, 0, none⟩))] 95 (0, 0))], sg22, [Hp.one pb14 (.cells #[(.bool (useS (useS (Pw.mk false false 0 0))).off), (.bool (useS (useS (Pw.mk false false 0 0))).armed), (.int .i64 (useS (useS (Pw.mk false false 0 0))).left), (.int .i64 (useS (useS (Pw.mk false false 0 0))).uses)] 78 (0, 0))], R] := hH39
        let I44 : Nat → (Nat → Value) → World → Prop := fun n__ r__ w__ => ∃ (i : Nat) (h3 : Hd) (p3 : Pw) (la3 : List Bs) (sg3 : List Hp), n__ = l.length - i ∧ Has E w__ [sg3, [Hp.one pb14 (.cells #[(.bool p3.off), (.bool p3.armed), (.int .i64 p3.left), (.int .i64 p3.uses)] 78 (0, 0))], [Hp.one mb21 (.cells #[(.int .i64 h3.st), (.int .i64 h3.cut), (.int .i64 h3.seq), (.int .i64 h3.ep), (.int .i64 h3.cut), (.int .i64 h3.st), (.int .i64 h3.mrk), (.pointer (some ⟨db13, 0, none⟩))] 95 (0, 0))], [Hp.one b35 (.cells #[(.int .i64 h3.st), (.int .i64 h3.cut)] 50 (0, 0))], R] ∧ (i ≤ l.length) ∧ (DevAt pb14 sg3 db13 la3 []) ∧ (Calm p3 (2 + 2 * i)) ∧ (la3.length = 3) ∧ (Full64 la3) ∧ (KpA la3 0 h3) ∧ (1 ≤ h3.seq ∧ h3.seq ≤ 1 + i) ∧ (h3.ep = 0 ∧ h3.mrk = 0) ∧ ((0 ≤ h3.st ∧ h3.st ≤ 4611686018427387903) ∧ (0 ≤ h3.cut ∧ h3.cut ≤ 4611686018427387903)) ∧ r__ 0 = v ∧ r__ 3 = (.pointer (some ⟨db13, 0, none⟩)) ∧ r__ 4 = (.pointer (some ⟨mb21, 0, none⟩)) ∧ r__ 5 = (.int .i64 (0 : Int)) ∧ r__ 6 = (.pointer (some ⟨b35, 0, none⟩)) ∧ r__ 7 = (.int .i64 (i : Int)) ∧ r__ 18 = (.bool false) ∧ r__ 37 = (.bool (!(eqv50 ((hdUp (Hd.mk 0 0 0 0 0)).st) ((hdUp (Hd.mk 0 0 0 0 0)).cut) (0 : Int) (0 : Int))))
        have hH45 : Has E w38 [sg22, [Hp.one pb14 (.cells #[(.bool (useS (useS (Pw.mk false false 0 0))).off), (.bool (useS (useS (Pw.mk false false 0 0))).armed), (.int .i64 (useS (useS (Pw.mk false false 0 0))).left), (.int .i64 (useS (useS (Pw.mk false false 0 0))).uses)] 78 (0, 0))], [Hp.one mb21 (.cells #[(.int .i64 (hdUp (Hd.mk 0 0 0 0 0)).st), (.int .i64 (hdUp (Hd.mk 0 0 0 0 0)).cut), (.int .i64 (hdUp (Hd.mk 0 0 0 0 0)).seq), (.int .i64 (hdUp (Hd.mk 0 0 0 0 0)).ep), (.int .i64 (hdUp (Hd.mk 0 0 0 0 0)).cut), (.int .i64 (hdUp (Hd.mk 0 0 0 0 0)).st), (.int .i64 (hdUp (Hd.mk 0 0 0 0 0)).mrk), (.pointer (some ⟨db13, 0, none⟩))] 95 (0, 0))], [Hp.one b35 (.cells #[(.int .i64 (hdUp (Hd.mk 0 0 0 0 0)).st), (.int .i64 (hdUp (Hd.mk 0 0 0 0 0)).cut)] 50 (0, 0))], R] := (((((hH42.front 4 rfl).front 1 rfl).front 2 rfl).front 4 rfl).front 4 rfl).first 5 rfl
        refine c_loop I44 _ ⟨0, (hdUp (Hd.mk 0 0 0 0 0)), (useS (useS (Pw.mk false false 0 0))), ((List.replicate 3 blankS).set (svN 0 (Hd.mk 0 0 0 0 0)).toNat (hdL (hdUp (Hd.mk 0 0 0 0 0)))), sg22, rfl, hH45, Nat.zero_le _, hd23, Calm.new.use.use, (by rw [List.length_set, List.length_replicate]), set_64 (full_blank _) (by decide +kernel), kp_start (by decide), (by decide), ⟨rfl, rfl⟩, ⟨⟨by decide, by decide⟩, by decide, by decide⟩, rfl, rfl, rfl, rfl, rfl, rfl, rfl, rfl⟩ ?_
        rintro n_ r48 w46 ⟨i, h3, p3, la3, sg3, rfl, hH47, hi, hd3, hp3, hln3, h643, hkp3, hsq3, hz3, hb3, e43_0, e43_3, e43_4, e43_5, e43_6, e43_7, e43_18, e43_37⟩
        refine wp_seq_k fun K49 hK49 => ?_
        refine wp_seq_k fun K50 hK50 => ?_
        refine c_region ?_
        refine s_op (o_move (v := (.int .i64 (i : Int))) e43_7 ?_)
        refine s_op (o_move (v := v) e43_0 ?_)
        refine s_op (o_lenS Tryz.underlying58 rfl hv ?_)
        refine s_op (o_lss (a := (i : Int)) (b := ((l.length : Nat) : Int)) rfl rfl ?_)
        refine s_nil ?_
        refine t_norm (hK50 _ _ ?_)
        refine c_cond rfl (fun h51 => ?_) (fun h51 => ?_)
        · -- (i : Int) < ((l.length : Nat) : Int)
          refine wp_skip ?_
          refine t_norm (hK49 _ _ ?_)
          refine wp_seq_k fun K52 hK52 => ?_
          refine wp_block ?_
          refine wp_seq_k fun K53 hK53 => ?_
          refine c_region ?_
          refine s_op (o_move (v := (.pointer (some ⟨db13, 0, none⟩))) e43_3 ?_)
          refine s_op (o_callf (vs := #[(.pointer (some ⟨db13, 0, none⟩))]) ca27 rfl (args1 rfl) (duses_d (p := p3) (la := la3) (lo := ([] : List (Int × Bs))) ((hH47.front 1 rfl).front 1 rfl).all2 hd3 ) ?_)
          rintro _ w56 ⟨rfl, hX54⟩
          refine ⟨_, rfl, ?_⟩
          have hH55 : Has E w56 [sg3, [Hp.one pb14 (.cells #[(.bool p3.off), (.bool p3.armed), (.int .i64 p3.left), (.int .i64 p3.uses)] 78 (0, 0))], [Hp.one mb21 (.cells #[(.int .i64 h3.st), (.int .i64 h3.cut), (.int .i64 h3.seq), (.int .i64 h3.ep), (.int .i64 h3.cut), (.int .i64 h3.st), (.int .i64 h3.mrk), (.pointer (some ⟨db13, 0, none⟩))] 95 (0, 0))], [Hp.one b35 (.cells #[(.int .i64 h3.st), (.int .i64 h3.cut)] 50 (0, 0))], R] := hX54.of_all2
          refine s_op (o_assign (v := (.int .i64 p3.uses)) rfl ?_)
          refine s_nil ?_
          refine t_norm (hK53 _ _ ?_)
          refine wp_seq_k fun K57 hK57 => ?_
          refine c_region ?_
          refine s_op (o_assign (v := (.int .i64 0)) rfl ?_)
          refine s_nil ?_
          refine t_norm (hK57 _ _ ?_)
          refine wp_seq_k fun K58 hK58 => ?_
          refine wp_seq_k fun K59 hK59 => ?_
          obtain ⟨x60, hx61⟩ : ∃ x_, l[((i : Int)).toNat]? = some x_ := get_some (by omega)
          let J63 : (Nat → Value) → World → Prop := fun r__ w__ => ∃ (wb : Bool), Has E w__ [sg3, [Hp.one pb14 (.cells #[(.bool p3.off), (.bool p3.armed), (.int .i64 p3.left), (.int .i64 p3.uses)] 78 (0, 0))], [Hp.one mb21 (.cells #[(.int .i64 h3.st), (.int .i64 h3.cut), (.int .i64 h3.seq), (.int .i64 h3.ep), (.int .i64 h3.cut), (.int .i64 h3.st), (.int .i64 h3.mrk), (.pointer (some ⟨db13, 0, none⟩))] 95 (0, 0))], [Hp.one b35 (.cells #[(.int .i64 h3.st), (.int .i64 h3.cut)] 50 (0, 0))], R] ∧ (wb = decide (x60.1 < h3.st ∨ x60.2 < h3.cut ∨ ¬ (0 ≤ x60.1 ∧ x60.1 ≤ 4611686018427387903) ∨ ¬ (0 ≤ x60.2 ∧ x60.2 ≤ 4611686018427387903))) ∧ r__ 0 = v ∧ r__ 3 = (.pointer (some ⟨db13, 0, none⟩)) ∧ r__ 4 = (.pointer (some ⟨mb21, 0, none⟩)) ∧ r__ 5 = (.int .i64 (0 : Int)) ∧ r__ 6 = (.pointer (some ⟨b35, 0, none⟩)) ∧ r__ 7 = (.int .i64 (i : Int)) ∧ r__ 8 = (.int .i64 p3.uses) ∧ r__ 9 = (.int .i64 0) ∧ r__ 18 = (.bool false) ∧ r__ 37 = (.bool (!(eqv50 ((hdUp (Hd.mk 0 0 0 0 0)).st) ((hdUp (Hd.mk 0 0 0 0 0)).cut) (0 : Int) (0 : Int)))) ∧ r__ 42 = (.bool (decide ((i : Int) < ((l.length : Nat) : Int)))) ∧ r__ 82 = (.bool wb)
          have hJ64 : ∀ r w, J63 r w → K59 (Go.Q.fr 134 r) w := by
            rintro r67 w65 ⟨wb, hH66, hwb, e62_0, e62_3, e62_4, e62_5, e62_6, e62_7, e62_8, e62_9, e62_18, e62_37, e62_42, e62_82⟩
            refine hK59 _ _ ?_
            refine c_condb e62_82 (fun h68 => ?_) (fun h68 => ?_)
            · -- wb
              refine c_region ?_
              refine s_op (o_assign (v := (.int .i64 1)) rfl ?_)
              refine s_nil ?_
              refine t_norm (hK58 _ _ ?_)
              refine wp_seq_k fun K69 hK69 => ?_
              refine wp_seq_k fun K70 hK70 => ?_
              have hwT_ := of_decide_eq_true (hwb.symm.trans h68)
              by_cases hw71 : x60.1 < h3.st ∨ x60.2 < h3.cut
              · -- way arg
                refine Rest.region mixed (by kernel_rfl) ?_
                have hH72 : Has E { w65 with drawn := w65.drawn + 1 } [sg3, [Hp.one pb14 (.cells #[(.bool p3.off), (.bool p3.armed), (.int .i64 p3.left), (.int .i64 p3.uses)] 78 (0, 0))], [Hp.one mb21 (.cells #[(.int .i64 h3.st), (.int .i64 h3.cut), (.int .i64 h3.seq), (.int .i64 h3.ep), (.int .i64 h3.cut), (.int .i64 h3.st), (.int .i64 h3.mrk), (.pointer (some ⟨db13, 0, none⟩))] 95 (0, 0))], [Hp.one b35 (.cells #[(.int .i64 h3.st), (.int .i64 h3.cut)] 50 (0, 0))], R] := Has0.drew hH66 _
                refine Rest.phaseA (fun w_ => Has E w_ [R]) 0 7 7 rfl (by decide) (by kernel_rfl) ?_
                refine a_op 0 rfl (by kernel_rfl) (fun w_ h_ => o_move (v := (.pointer (some ⟨mb21, 0, none⟩))) e62_4 ⟨rfl, rfl⟩) ?_
                refine a_op 1 rfl (by kernel_rfl) (fun w_ h_ => o_move (v := v) e62_0 ⟨rfl, rfl⟩) ?_
                refine a_op 2 rfl (by kernel_rfl) (fun w_ h_ => o_move (v := (.int .i64 (i : Int))) e62_7 ⟨rfl, rfl⟩) ?_
                obtain ⟨b73, o74, hc75, ho76⟩ := ix_exF ptC_len Tryz.underlying58 ti50 hv (by omega) hx61
                refine a_op 3 rfl (by kernel_rfl) (fun w_ h_ => ho76 rfl rfl ⟨rfl, rfl⟩) ?_
                refine a_op 4 rfl (by kernel_rfl) (fun w_ h_ => o_loadN (cs := [(.int .i64 x60.1), (.int .i64 x60.2)]) Tryz.underlying50 rfl ti50 rfl h_ (seg_sub 0 rfl) hc75 ⟨rfl, rfl⟩) ?_
                refine a_op 6 rfl (by kernel_rfl) (fun w_ h_ => o_move (v := (.int .i64 1)) rfl ⟨rfl, rfl⟩) ?_
                have hH77 : Has E { w65 with drawn := w65.drawn + 1 } [R] := (hH72.front 4 rfl).first 1 rfl
                refine a_w 5 rfl (by kernel_rfl) hH77 (o_callf (vs := #[(.pointer (some ⟨mb21, 0, none⟩)), (.agg #[(.int .i64 x60.1), (.int .i64 x60.2)])]) ca24 rfl (args2 rfl rfl) (keep_arg (p := p3) (la := la3) (h := h3) (((hH72.front 2 rfl).front 2 rfl).front 2 rfl).all3 hd3 (hg.mono (seg_sub 1 rfl)) (hp3.ok (by omega)) (hp3.use.ok (by omega)) (by rw [hln3]; decide) (pl := x60.1) (pn := x60.2) hw71) ?_)
                rintro _ w81 ⟨rfl, hd78, hX79⟩
                refine ⟨_, rfl, ?_⟩
                have hH80 : Has E w81 [sg3, [Hp.one pb14 (.cells #[(.bool p3.off), (.bool p3.armed), (.int .i64 p3.left), (.int .i64 p3.uses)] 78 (0, 0))], [Hp.one mb21 (.cells #[(.int .i64 h3.st), (.int .i64 h3.cut), (.int .i64 h3.seq), (.int .i64 h3.ep), (.int .i64 h3.cut), (.int .i64 h3.st), (.int .i64 h3.mrk), (.pointer (some ⟨db13, 0, none⟩))] 95 (0, 0))], [Hp.one b35 (.cells #[(.int .i64 h3.st), (.int .i64 h3.cut)] 50 (0, 0))], R] := hX79.of_all3
                have hH82 : Has E w81 [R] := (hH80.front 4 rfl).first 1 rfl
                refine a_done (by kernel_rfl) hH82 ?_
                refine r_op 7 rfl (by kernel_rfl) (o_neq (a := (1 : Int)) (b := 1) rfl rfl ?_)
                refine r_op 8 rfl (by kernel_rfl) (o_move (v := (.bool (decide ((1 : Int) ≠ 1)))) rfl ?_)
                by_cases h83 : (1 : Int) ≠ 1
                · -- (1 : Int) ≠ 1
                  exact absurd h83 (by decide)
                · -- not: (1 : Int) ≠ 1
                  refine r_on 9 rfl (by kernel_rfl) 91 rfl (congrArg Value.bool (decide_eq_false h83)) (o_move (v := (.int .i64 1)) rfl ?_)
                  refine r_on 10 rfl (by kernel_rfl) 91 rfl (congrArg Value.bool (decide_eq_false h83)) (o_eql (a := 1) (b := 0) rfl rfl ?_)
                  refine r_on 11 rfl (by kernel_rfl) 91 rfl (congrArg Value.bool (decide_eq_false h83)) (o_move (v := (.bool (decide ((1 : Int) = (0 : Int))))) rfl ?_)
                  refine Rest.phaseA (fun w_ => Has E w_ []) 12 17 5 rfl (by decide) (by kernel_rfl) ?_
                  by_cases h84 : (1 : Int) = (0 : Int)
                  · -- (1 : Int) = (0 : Int)
                    exact absurd h84 (by decide)
                  · -- not: (1 : Int) = (0 : Int)
                    refine a_off (b' := false) 12 rfl (by kernel_rfl) 94 rfl (congrArg Value.bool (decide_eq_false h84)) rfl ?_
                    refine a_off (b' := false) 13 rfl (by kernel_rfl) 94 rfl (congrArg Value.bool (decide_eq_false h84)) rfl ?_
                    refine a_off (b' := false) 14 rfl (by kernel_rfl) 94 rfl (congrArg Value.bool (decide_eq_false h84)) rfl ?_
                    refine a_off (b' := false) 15 rfl (by kernel_rfl) 94 rfl (congrArg Value.bool (decide_eq_false h84)) rfl ?_
                    refine a_off (b' := false) 16 rfl (by kernel_rfl) 94 rfl (congrArg Value.bool (decide_eq_false h84)) rfl ?_
                    have hH85 : Has E w81 [] := hH80.first 0 rfl
                    refine a_done (by kernel_rfl) hH85 ?_
                    refine r_off (b' := false) 17 rfl (by kernel_rfl) 94 rfl (congrArg Value.bool (decide_eq_false h84)) rfl ?_
                    refine r_on 18 rfl (by kernel_rfl) 91 rfl (congrArg Value.bool (decide_eq_false h83)) (o_pick_f (u := (.bool false)) ((rfl : _ = _).trans (congrArg Value.bool (decide_eq_false h84))) rfl ?_)
                    refine r_on 19 rfl (by kernel_rfl) 91 rfl (congrArg Value.bool (decide_eq_false h83)) (o_move (v := (.bool false)) rfl ?_)
                    refine Rest.phaseA (fun w_ => Has E w_ []) 20 23 3 rfl (by decide) (by kernel_rfl) ?_
                    refine a_off (b' := false) 20 rfl (by kernel_rfl) 102 rfl rfl rfl ?_
                    refine a_off (b' := false) 22 rfl (by kernel_rfl) 102 rfl rfl rfl ?_
                    refine a_off (b' := false) 21 rfl (by kernel_rfl) 102 rfl rfl rfl ?_
                    have hH86 : Has E w81 [] := hH80.first 0 rfl
                    refine a_done (by kernel_rfl) hH86 ?_
                    refine r_off (b' := false) 23 rfl (by kernel_rfl) 102 rfl rfl rfl ?_
                    refine r_on 24 rfl (by kernel_rfl) 91 rfl (congrArg Value.bool (decide_eq_false h83)) (o_pick_f (u := (.bool false)) rfl rfl ?_)
                    refine r_op 25 rfl (by kernel_rfl) (o_pick_f (u := (.bool false)) ((rfl : _ = _).trans (congrArg Value.bool (decide_eq_false h83))) rfl ?_)
                    refine Rest.done (by kernel_rfl) ?_
                    refine t_norm (hK70 _ _ ?_)
                    refine c_false rfl rfl ?_
                    refine wp_skip ?_
                    refine t_norm (hK69 _ _ ?_)
                    refine wp_seq_k fun K87 hK87 => ?_
                    refine wp_seq_k fun K88 hK88 => ?_
                    refine c_region ?_
                    refine s_op (o_move (v := (.int .i64 1)) rfl ?_)
                    refine s_op (o_eql (a := 1) (b := 0) rfl rfl ?_)
                    refine s_nil ?_
                    refine t_norm (hK88 _ _ ?_)
                    refine c_false rfl (decide_eq_false h84) ?_
                    refine wp_skip ?_
                    refine t_norm (hK87 _ _ ?_)
                    refine wp_seq_k fun K89 hK89 => ?_
                    refine c_region ?_
                    refine s_op (o_move (v := (.pointer (some ⟨db13, 0, none⟩))) e62_3 ?_)
                    refine s_op (o_callf (vs := #[(.pointer (some ⟨db13, 0, none⟩))]) ca23 rfl (args1 rfl) (open_yes (p := p3) (la := la3) ((hH80.front 1 rfl).front 1 rfl).all2 hd78 (hg.mono (seg_sub 2 rfl)) h643 (by rw [hln3]; decide) (h := h3) (hkp3.ld (p := p3) (by rw [hln3]; decide) hp3.off).1 (hkp3.ld (p := p3) (by rw [hln3]; decide) hp3.off).2 hz3.1 hz3.2) ?_)
                    rintro _ w93 ⟨mb90, rfl, hX91⟩
                    refine ⟨_, rfl, ?_⟩
                    have hH92 : Has E w93 [[Hp.one mb90 (.cells #[(.int .i64 h3.st), (.int .i64 h3.cut), (.int .i64 h3.seq), (.int .i64 h3.ep), (.int .i64 h3.cut), (.int .i64 h3.st), (.int .i64 h3.mrk), (.pointer (some ⟨db13, 0, none⟩))] 95 (0, 0))], sg3, [Hp.one pb14 (.cells #[(.bool p3.off), (.bool p3.armed), (.int .i64 p3.left), (.int .i64 p3.uses)] 78 (0, 0))], [Hp.one mb21 (.cells #[(.int .i64 h3.st), (.int .i64 h3.cut), (.int .i64 h3.seq), (.int .i64 h3.ep), (.int .i64 h3.cut), (.int .i64 h3.st), (.int .i64 h3.mrk), (.pointer (some ⟨db13, 0, none⟩))] 95 (0, 0))], [Hp.one b35 (.cells #[(.int .i64 h3.st), (.int .i64 h3.cut)] 50 (0, 0))], R] := hX91.of_all3
                    refine s_op (o_move (v := (.tuple #[(.pointer (some ⟨mb90, 0, none⟩)), (.int .i64 (0 : Int))])) rfl ?_)
                    refine s_op (o_extract (v := (.pointer (some ⟨mb90, 0, none⟩))) rfl rfl ?_)
                    refine s_op (o_extract (v := (.int .i64 (0 : Int))) rfl rfl ?_)
                    refine s_op (o_assign (v := (.pointer (some ⟨mb90, 0, none⟩))) rfl ?_)
                    refine s_op (o_assign (v := (.int .i64 (0 : Int))) rfl ?_)
                    refine s_nil ?_
                    refine t_norm (hK89 _ _ ?_)
                    refine wp_seq_k fun K94 hK94 => ?_
                    refine Rest.region mixed (by kernel_rfl) ?_
                    have hH95 : Has E { w93 with drawn := w93.drawn + 1 } [[Hp.one mb90 (.cells #[(.int .i64 h3.st), (.int .i64 h3.cut), (.int .i64 h3.seq), (.int .i64 h3.ep), (.int .i64 h3.cut), (.int .i64 h3.st), (.int .i64 h3.mrk), (.pointer (some ⟨db13, 0, none⟩))] 95 (0, 0))], sg3, [Hp.one pb14 (.cells #[(.bool p3.off), (.bool p3.armed), (.int .i64 p3.left), (.int .i64 p3.uses)] 78 (0, 0))], [Hp.one mb21 (.cells #[(.int .i64 h3.st), (.int .i64 h3.cut), (.int .i64 h3.seq), (.int .i64 h3.ep), (.int .i64 h3.cut), (.int .i64 h3.st), (.int .i64 h3.mrk), (.pointer (some ⟨db13, 0, none⟩))] 95 (0, 0))], [Hp.one b35 (.cells #[(.int .i64 h3.st), (.int .i64 h3.cut)] 50 (0, 0))], R] := Has0.drew hH92 _
                    refine Rest.phaseA (fun w_ => Has E w_ [[Hp.one b35 (.cells #[(.int .i64 h3.st), (.int .i64 h3.cut)] 50 (0, 0))]]) 0 3 3 rfl (by decide) (by kernel_rfl) ?_
                    refine a_op 0 rfl (by kernel_rfl) (fun w_ h_ => o_move (v := (.pointer (some ⟨mb21, 0, none⟩))) e62_4 ⟨rfl, rfl⟩) ?_
                    refine a_op 2 rfl (by kernel_rfl) (fun w_ h_ => o_loadN (cs := [(.int .i64 h3.st), (.int .i64 h3.cut)]) Tryz.underlying50 rfl ti50 e62_6 h_ (seg_sub 0 rfl) (CellsAt.one rfl) ⟨rfl, rfl⟩) ?_
                    have hH96 : Has E { w93 with drawn := w93.drawn + 1 } [[Hp.one b35 (.cells #[(.int .i64 h3.st), (.int .i64 h3.cut)] 50 (0, 0))]] := (hH95.front 4 rfl).first 1 rfl
                    refine a_w 1 rfl (by kernel_rfl) hH96 (o_callf (vs := #[(.pointer (some ⟨mb21, 0, none⟩))]) ca25 rfl (args1 rfl) (mpoint_c (h := h3) (db := db13) hH95.all ((CellsAt.one rfl).mono (seg_sub 3 rfl))) ?_)
                    rintro _ w99 ⟨rfl, hX97⟩
                    refine ⟨_, rfl, ?_⟩
                    have hH98 := hX97.of_all
                    have hH100 : Has E w99 [[Hp.one b35 (.cells #[(.int .i64 h3.st), (.int .i64 h3.cut)] 50 (0, 0))]] := (hH98.front 4 rfl).first 1 rfl
                    refine a_done (by kernel_rfl) hH100 ?_
                    refine r_op 3 rfl (by kernel_rfl) (o_neq50 h3.st h3.cut h3.st h3.cut rfl rfl ?_)
                    refine r_op 4 rfl (by kernel_rfl) (o_move (v := (.bool (!(eqv50 h3.st h3.cut h3.st h3.cut)))) rfl ?_)
                    rcases Bool.eq_false_or_eq_true (!(eqv50 h3.st h3.cut h3.st h3.cut)) with h101 | h101
                    · -- !(eqv50 h3.st h3.cut h3.st h3.cut)
                      have h101_n : (eqv50 h3.st h3.cut h3.st h3.cut) = false := by simpa using h101
                      exact absurd h101 (by rw [(eqv50_iff _ _ _ _).2 (by first | exact ⟨rfl, rfl⟩ | exact ⟨hw71.1.symm, hw71.2.symm⟩)]; decide)
                    · -- not: !(eqv50 h3.st h3.cut h3.st h3.cut)
                      have h101_n : (eqv50 h3.st h3.cut h3.st h3.cut) = true := by simpa using h101
                      refine r_on 5 rfl (by kernel_rfl) 124 rfl (congrArg Value.bool h101) (o_move (v := (.int .i64 (0 : Int))) rfl ?_)
                      refine r_on 6 rfl (by kernel_rfl) 124 rfl (congrArg Value.bool h101) (o_neq (a := (0 : Int)) (b := 0) rfl rfl ?_)
                      refine r_op 7 rfl (by kernel_rfl) (o_pick_f (u := (.bool (decide ((0 : Int) ≠ 0)))) ((rfl : _ = _).trans (congrArg Value.bool h101)) rfl ?_)
                      refine r_op 8 rfl (by kernel_rfl) (o_move (v := (.bool (decide ((0 : Int) ≠ 0)))) rfl ?_)
                      refine Rest.phaseA (fun w_ => Has E w_ [[Hp.one b35 (.cells #[(.int .i64 h3.st), (.int .i64 h3.cut)] 50 (0, 0))]]) 9 12 3 rfl (by decide) (by kernel_rfl) ?_
                      refine a_on 9 rfl (by kernel_rfl) 128 rfl (congrArg Value.bool (decide_eq_false h29)) (fun w_ h_ => o_move (v := (.pointer (some ⟨mb90, 0, none⟩))) rfl ⟨rfl, rfl⟩) ?_
                      refine a_on 11 rfl (by kernel_rfl) 128 rfl (congrArg Value.bool (decide_eq_false h29)) (fun w_ h_ => o_loadN (cs := [(.int .i64 h3.st), (.int .i64 h3.cut)]) Tryz.underlying50 rfl ti50 e62_6 h_ (seg_sub 0 rfl) (CellsAt.one rfl) ⟨rfl, rfl⟩) ?_
                      have hH102 : Has E w99 [[Hp.one b35 (.cells #[(.int .i64 h3.st), (.int .i64 h3.cut)] 50 (0, 0))]] := (hH98.front 4 rfl).first 1 rfl
                      refine a_won 10 rfl (by kernel_rfl) hH102 128 rfl (congrArg Value.bool (decide_eq_false h29)) (o_callf (vs := #[(.pointer (some ⟨mb90, 0, none⟩))]) ca25 rfl (args1 rfl) (mpoint_c (h := h3) (db := db13) hH98.all ((CellsAt.one rfl).mono (seg_sub 0 rfl))) ?_)
                      rintro _ w105 ⟨rfl, hX103⟩
                      refine ⟨_, rfl, ?_⟩
                      have hH104 := hX103.of_all
                      have hH106 : Has E w105 [[Hp.one b35 (.cells #[(.int .i64 h3.st), (.int .i64 h3.cut)] 50 (0, 0))]] := (hH104.front 4 rfl).first 1 rfl
                      refine a_done (by kernel_rfl) hH106 ?_
                      refine r_on 12 rfl (by kernel_rfl) 128 rfl (congrArg Value.bool (decide_eq_false h29)) (o_neq50 h3.st h3.cut h3.st h3.cut rfl rfl ?_)
                      refine r_op 13 rfl (by kernel_rfl) (o_pick_f (u := (.bool (!(eqv50 h3.st h3.cut h3.st h3.cut)))) ((rfl : _ = _).trans (congrArg Value.bool (decide_eq_false h29))) rfl ?_)
                      refine Rest.done (by kernel_rfl) ?_
                      refine t_norm (hK94 _ _ ?_)
                      refine c_false rfl h101 ?_
                      refine wp_skip ?_
                      refine b_norm ?_
                      refine t_norm (hK52 _ _ ?_)
                      refine c_region ?_
                      refine s_op (o_move (v := (.int .i64 (i : Int))) e62_7 ?_)
                      refine s_op (o_add (a := (i : Int)) (b := 1) rfl rfl (w64 (by omega) (by omega)) ?_)
                      refine s_op (o_assign (v := (.int .i64 ((i : Int) + 1))) rfl ?_)
                      refine s_nil ?_
                      have hH107 : Has E w105 [sg3, [Hp.one pb14 (.cells #[(.bool p3.off), (.bool p3.armed), (.int .i64 p3.left), (.int .i64 p3.uses)] 78 (0, 0))], [Hp.one mb21 (.cells #[(.int .i64 h3.st), (.int .i64 h3.cut), (.int .i64 h3.seq), (.int .i64 h3.ep), (.int .i64 h3.cut), (.int .i64 h3.st), (.int .i64 h3.mrk), (.pointer (some ⟨db13, 0, none⟩))] 95 (0, 0))], [Hp.one b35 (.cells #[(.int .i64 h3.st), (.int .i64 h3.cut)] 50 (0, 0))], R] := (((((hH104.front 5 rfl).front 5 rfl).front 5 rfl).front 5 rfl).front 5 rfl).first 5 rfl
                      refine t_norm ⟨l.length - (i + 1), _, rfl, ?_, ?_⟩
                      · omega
                      · exact ⟨(i + 1), h3, p3, la3, sg3, rfl, hH107, (by omega), (hd78), (hp3.mono (by omega)), (hln3), (h643), (hkp3), (⟨by omega, by omega⟩), (hz3), (hb3), e62_0, e62_3, e62_4, e62_5, e62_6, rfl, e62_18, e62_37⟩
              · -- way no
                refine Rest.region mixed (by kernel_rfl) ?_
                have hH108 : Has E { w65 with drawn := w65.drawn + 1 } [sg3, [Hp.one pb14 (.cells #[(.bool p3.off), (.bool p3.armed), (.int .i64 p3.left), (.int .i64 p3.uses)] 78 (0, 0))], [Hp.one mb21 (.cells #[(.int .i64 h3.st), (.int .i64 h3.cut), (.int .i64 h3.seq), (.int .i64 h3.ep), (.int .i64 h3.cut), (.int .i64 h3.st), (.int .i64 h3.mrk), (.pointer (some ⟨db13, 0, none⟩))] 95 (0, 0))], [Hp.one b35 (.cells #[(.int .i64 h3.st), (.int .i64 h3.cut)] 50 (0, 0))], R] := Has0.drew hH66 _
                refine Rest.phaseA (fun w_ => Has E w_ [R]) 0 7 7 rfl (by decide) (by kernel_rfl) ?_
                refine a_op 0 rfl (by kernel_rfl) (fun w_ h_ => o_move (v := (.pointer (some ⟨mb21, 0, none⟩))) e62_4 ⟨rfl, rfl⟩) ?_
                refine a_op 1 rfl (by kernel_rfl) (fun w_ h_ => o_move (v := v) e62_0 ⟨rfl, rfl⟩) ?_
                refine a_op 2 rfl (by kernel_rfl) (fun w_ h_ => o_move (v := (.int .i64 (i : Int))) e62_7 ⟨rfl, rfl⟩) ?_
                obtain ⟨b109, o110, hc111, ho112⟩ := ix_exF ptC_len Tryz.underlying58 ti50 hv (by omega) hx61
                refine a_op 3 rfl (by kernel_rfl) (fun w_ h_ => ho112 rfl rfl ⟨rfl, rfl⟩) ?_
                refine a_op 4 rfl (by kernel_rfl) (fun w_ h_ => o_loadN (cs := [(.int .i64 x60.1), (.int .i64 x60.2)]) Tryz.underlying50 rfl ti50 rfl h_ (seg_sub 0 rfl) hc111 ⟨rfl, rfl⟩) ?_
                refine a_op 6 rfl (by kernel_rfl) (fun w_ h_ => o_move (v := (.int .i64 1)) rfl ⟨rfl, rfl⟩) ?_
                have hH113 : Has E { w65 with drawn := w65.drawn + 1 } [R] := (hH108.front 4 rfl).first 1 rfl
                refine a_w 5 rfl (by kernel_rfl) hH113 (o_callf (vs := #[(.pointer (some ⟨mb21, 0, none⟩)), (.agg #[(.int .i64 x60.1), (.int .i64 x60.2)])]) ca24 rfl (args2 rfl rfl) (keep_no (p := p3) (la := la3) (h := h3) (((hH108.front 2 rfl).front 2 rfl).front 2 rfl).all3 hd3 (hg.mono (seg_sub 1 rfl)) (hp3.ok (by omega)) (hp3.use.ok (by omega)) (by rw [hln3]; decide) (pl := x60.1) (pn := x60.2) ⟨by omega, by omega⟩ (fun k => by omega) (pt_bad (by omega))) ?_)
                rintro _ w118 ⟨sg115, rfl, hd114, hX116⟩
                refine ⟨_, rfl, ?_⟩
                have hH117 : Has E w118 [sg115, [Hp.one pb14 (.cells #[(.bool p3.off), (.bool p3.armed), (.int .i64 p3.left), (.int .i64 p3.uses)] 78 (0, 0))], [Hp.one mb21 (.cells #[(.int .i64 h3.st), (.int .i64 h3.cut), (.int .i64 h3.seq), (.int .i64 h3.ep), (.int .i64 h3.cut), (.int .i64 h3.st), (.int .i64 h3.mrk), (.pointer (some ⟨db13, 0, none⟩))] 95 (0, 0))], [Hp.one b35 (.cells #[(.int .i64 h3.st), (.int .i64 h3.cut)] 50 (0, 0))], R] := hX116.of_all3
                have hH119 : Has E w118 [R] := (hH117.front 4 rfl).first 1 rfl
                refine a_done (by kernel_rfl) hH119 ?_
                refine r_op 7 rfl (by kernel_rfl) (o_neq (a := (1 : Int)) (b := 1) rfl rfl ?_)
                refine r_op 8 rfl (by kernel_rfl) (o_move (v := (.bool (decide ((1 : Int) ≠ 1)))) rfl ?_)
                by_cases h120 : (1 : Int) ≠ 1
                · -- (1 : Int) ≠ 1
                  exact absurd h120 (by decide)
                · -- not: (1 : Int) ≠ 1
                  refine r_on 9 rfl (by kernel_rfl) 91 rfl (congrArg Value.bool (decide_eq_false h120)) (o_move (v := (.int .i64 1)) rfl ?_)
                  refine r_on 10 rfl (by kernel_rfl) 91 rfl (congrArg Value.bool (decide_eq_false h120)) (o_eql (a := 1) (b := 0) rfl rfl ?_)
                  refine r_on 11 rfl (by kernel_rfl) 91 rfl (congrArg Value.bool (decide_eq_false h120)) (o_move (v := (.bool (decide ((1 : Int) = (0 : Int))))) rfl ?_)
                  refine Rest.phaseA (fun w_ => Has E w_ []) 12 17 5 rfl (by decide) (by kernel_rfl) ?_
                  by_cases h121 : (1 : Int) = (0 : Int)
                  · -- (1 : Int) = (0 : Int)
                    exact absurd h121 (by decide)
                  · -- not: (1 : Int) = (0 : Int)
                    refine a_off (b' := false) 12 rfl (by kernel_rfl) 94 rfl (congrArg Value.bool (decide_eq_false h121)) rfl ?_
                    refine a_off (b' := false) 13 rfl (by kernel_rfl) 94 rfl (congrArg Value.bool (decide_eq_false h121)) rfl ?_
                    refine a_off (b' := false) 14 rfl (by kernel_rfl) 94 rfl (congrArg Value.bool (decide_eq_false h121)) rfl ?_
                    refine a_off (b' := false) 15 rfl (by kernel_rfl) 94 rfl (congrArg Value.bool (decide_eq_false h121)) rfl ?_
                    refine a_off (b' := false) 16 rfl (by kernel_rfl) 94 rfl (congrArg Value.bool (decide_eq_false h121)) rfl ?_
                    have hH122 : Has E w118 [] := hH117.first 0 rfl
                    refine a_done (by kernel_rfl) hH122 ?_
                    refine r_off (b' := false) 17 rfl (by kernel_rfl) 94 rfl (congrArg Value.bool (decide_eq_false h121)) rfl ?_
                    refine r_on 18 rfl (by kernel_rfl) 91 rfl (congrArg Value.bool (decide_eq_false h120)) (o_pick_f (u := (.bool false)) ((rfl : _ = _).trans (congrArg Value.bool (decide_eq_false h121))) rfl ?_)
                    refine r_on 19 rfl (by kernel_rfl) 91 rfl (congrArg Value.bool (decide_eq_false h120)) (o_move (v := (.bool false)) rfl ?_)
                    refine Rest.phaseA (fun w_ => Has E w_ []) 20 23 3 rfl (by decide) (by kernel_rfl) ?_
                    refine a_off (b' := false) 20 rfl (by kernel_rfl) 102 rfl rfl rfl ?_
                    refine a_off (b' := false) 22 rfl (by kernel_rfl) 102 rfl rfl rfl ?_
                    refine a_off (b' := false) 21 rfl (by kernel_rfl) 102 rfl rfl rfl ?_
                    have hH123 : Has E w118 [] := hH117.first 0 rfl
                    refine a_done (by kernel_rfl) hH123 ?_
                    refine r_off (b' := false) 23 rfl (by kernel_rfl) 102 rfl rfl rfl ?_
                    refine r_on 24 rfl (by kernel_rfl) 91 rfl (congrArg Value.bool (decide_eq_false h120)) (o_pick_f (u := (.bool false)) rfl rfl ?_)
                    refine r_op 25 rfl (by kernel_rfl) (o_pick_f (u := (.bool false)) ((rfl : _ = _).trans (congrArg Value.bool (decide_eq_false h120))) rfl ?_)
                    refine Rest.done (by kernel_rfl) ?_
                    refine t_norm (hK70 _ _ ?_)
                    refine c_false rfl rfl ?_
                    refine wp_skip ?_
                    refine t_norm (hK69 _ _ ?_)
                    refine wp_seq_k fun K124 hK124 => ?_
                    refine wp_seq_k fun K125 hK125 => ?_
                    refine c_region ?_
                    refine s_op (o_move (v := (.int .i64 1)) rfl ?_)
                    refine s_op (o_eql (a := 1) (b := 0) rfl rfl ?_)
                    refine s_nil ?_
                    refine t_norm (hK125 _ _ ?_)
                    refine c_false rfl (decide_eq_false h121) ?_
                    refine wp_skip ?_
                    refine t_norm (hK124 _ _ ?_)
                    refine wp_seq_k fun K126 hK126 => ?_
                    refine c_region ?_
                    refine s_op (o_move (v := (.pointer (some ⟨db13, 0, none⟩))) e62_3 ?_)
                    refine s_op (o_callf (vs := #[(.pointer (some ⟨db13, 0, none⟩))]) ca23 rfl (args1 rfl) (open_yes (p := p3) (la := la3) ((hH117.front 1 rfl).front 1 rfl).all2 hd114 (hg.mono (seg_sub 2 rfl)) h643 (by rw [hln3]; decide) (h := h3) (hkp3.ld (p := p3) (by rw [hln3]; decide) hp3.off).1 (hkp3.ld (p := p3) (by rw [hln3]; decide) hp3.off).2 hz3.1 hz3.2) ?_)
                    rintro _ w130 ⟨mb127, rfl, hX128⟩
                    refine ⟨_, rfl, ?_⟩
                    have hH129 : Has E w130 [[Hp.one mb127 (.cells #[(.int .i64 h3.st), (.int .i64 h3.cut), (.int .i64 h3.seq), (.int .i64 h3.ep), (.int .i64 h3.cut), (.int .i64 h3.st), (.int .i64 h3.mrk), (.pointer (some ⟨db13, 0, none⟩))] 95 (0, 0))], sg115, [Hp.one pb14 (.cells #[(.bool p3.off), (.bool p3.armed), (.int .i64 p3.left), (.int .i64 p3.uses)] 78 (0, 0))], [Hp.one mb21 (.cells #[(.int .i64 h3.st), (.int .i64 h3.cut), (.int .i64 h3.seq), (.int .i64 h3.ep), (.int .i64 h3.cut), (.int .i64 h3.st), (.int .i64 h3.mrk), (.pointer (some ⟨db13, 0, none⟩))] 95 (0, 0))], [Hp.one b35 (.cells #[(.int .i64 h3.st), (.int .i64 h3.cut)] 50 (0, 0))], R] := hX128.of_all3
                    refine s_op (o_move (v := (.tuple #[(.pointer (some ⟨mb127, 0, none⟩)), (.int .i64 (0 : Int))])) rfl ?_)
                    refine s_op (o_extract (v := (.pointer (some ⟨mb127, 0, none⟩))) rfl rfl ?_)
                    refine s_op (o_extract (v := (.int .i64 (0 : Int))) rfl rfl ?_)
                    refine s_op (o_assign (v := (.pointer (some ⟨mb127, 0, none⟩))) rfl ?_)
                    refine s_op (o_assign (v := (.int .i64 (0 : Int))) rfl ?_)
                    refine s_nil ?_
                    refine t_norm (hK126 _ _ ?_)
                    refine wp_seq_k fun K131 hK131 => ?_
                    refine Rest.region mixed (by kernel_rfl) ?_
                    have hH132 : Has E { w130 with drawn := w130.drawn + 1 } [[Hp.one mb127 (.cells #[(.int .i64 h3.st), (.int .i64 h3.cut), (.int .i64 h3.seq), (.int .i64 h3.ep), (.int .i64 h3.cut), (.int .i64 h3.st), (.int .i64 h3.mrk), (.pointer (some ⟨db13, 0, none⟩))] 95 (0, 0))], sg115, [Hp.one pb14 (.cells #[(.bool p3.off), (.bool p3.armed), (.int .i64 p3.left), (.int .i64 p3.uses)] 78 (0, 0))], [Hp.one mb21 (.cells #[(.int .i64 h3.st), (.int .i64 h3.cut), (.int .i64 h3.seq), (.int .i64 h3.ep), (.int .i64 h3.cut), (.int .i64 h3.st), (.int .i64 h3.mrk), (.pointer (some ⟨db13, 0, none⟩))] 95 (0, 0))], [Hp.one b35 (.cells #[(.int .i64 h3.st), (.int .i64 h3.cut)] 50 (0, 0))], R] := Has0.drew hH129 _
                    refine Rest.phaseA (fun w_ => Has E w_ [[Hp.one b35 (.cells #[(.int .i64 h3.st), (.int .i64 h3.cut)] 50 (0, 0))]]) 0 3 3 rfl (by decide) (by kernel_rfl) ?_
                    refine a_op 0 rfl (by kernel_rfl) (fun w_ h_ => o_move (v := (.pointer (some ⟨mb21, 0, none⟩))) e62_4 ⟨rfl, rfl⟩) ?_
                    refine a_op 2 rfl (by kernel_rfl) (fun w_ h_ => o_loadN (cs := [(.int .i64 h3.st), (.int .i64 h3.cut)]) Tryz.underlying50 rfl ti50 e62_6 h_ (seg_sub 0 rfl) (CellsAt.one rfl) ⟨rfl, rfl⟩) ?_
                    have hH133 : Has E { w130 with drawn := w130.drawn + 1 } [[Hp.one b35 (.cells #[(.int .i64 h3.st), (.int .i64 h3.cut)] 50 (0, 0))]] := (hH132.front 4 rfl).first 1 rfl
                    refine a_w 1 rfl (by kernel_rfl) hH133 (o_callf (vs := #[(.pointer (some ⟨mb21, 0, none⟩))]) ca25 rfl (args1 rfl) (mpoint_c (h := h3) (db := db13) hH132.all ((CellsAt.one rfl).mono (seg_sub 3 rfl))) ?_)
                    rintro _ w136 ⟨rfl, hX134⟩
                    refine ⟨_, rfl, ?_⟩
                    have hH135 := hX134.of_all
                    have hH137 : Has E w136 [[Hp.one b35 (.cells #[(.int .i64 h3.st), (.int .i64 h3.cut)] 50 (0, 0))]] := (hH135.front 4 rfl).first 1 rfl
                    refine a_done (by kernel_rfl) hH137 ?_
                    refine r_op 3 rfl (by kernel_rfl) (o_neq50 h3.st h3.cut h3.st h3.cut rfl rfl ?_)
                    refine r_op 4 rfl (by kernel_rfl) (o_move (v := (.bool (!(eqv50 h3.st h3.cut h3.st h3.cut)))) rfl ?_)
                    rcases Bool.eq_false_or_eq_true (!(eqv50 h3.st h3.cut h3.st h3.cut)) with h138 | h138
                    · -- !(eqv50 h3.st h3.cut h3.st h3.cut)
                      have h138_n : (eqv50 h3.st h3.cut h3.st h3.cut) = false := by simpa using h138
                      exact absurd h138 (by rw [(eqv50_iff _ _ _ _).2 (by first | exact ⟨rfl, rfl⟩ | exact ⟨hw71.1.symm, hw71.2.symm⟩)]; decide)
                    · -- not: !(eqv50 h3.st h3.cut h3.st h3.cut)
                      have h138_n : (eqv50 h3.st h3.cut h3.st h3.cut) = true := by simpa using h138
                      refine r_on 5 rfl (by kernel_rfl) 124 rfl (congrArg Value.bool h138) (o_move (v := (.int .i64 (0 : Int))) rfl ?_)
                      refine r_on 6 rfl (by kernel_rfl) 124 rfl (congrArg Value.bool h138) (o_neq (a := (0 : Int)) (b := 0) rfl rfl ?_)
                      refine r_op 7 rfl (by kernel_rfl) (o_pick_f (u := (.bool (decide ((0 : Int) ≠ 0)))) ((rfl : _ = _).trans (congrArg Value.bool h138)) rfl ?_)
                      refine r_op 8 rfl (by kernel_rfl) (o_move (v := (.bool (decide ((0 : Int) ≠ 0)))) rfl ?_)
                      refine Rest.phaseA (fun w_ => Has E w_ [[Hp.one b35 (.cells #[(.int .i64 h3.st), (.int .i64 h3.cut)] 50 (0, 0))]]) 9 12 3 rfl (by decide) (by kernel_rfl) ?_
                      refine a_on 9 rfl (by kernel_rfl) 128 rfl (congrArg Value.bool (decide_eq_false h29)) (fun w_ h_ => o_move (v := (.pointer (some ⟨mb127, 0, none⟩))) rfl ⟨rfl, rfl⟩) ?_
                      refine a_on 11 rfl (by kernel_rfl) 128 rfl (congrArg Value.bool (decide_eq_false h29)) (fun w_ h_ => o_loadN (cs := [(.int .i64 h3.st), (.int .i64 h3.cut)]) Tryz.underlying50 rfl ti50 e62_6 h_ (seg_sub 0 rfl) (CellsAt.one rfl) ⟨rfl, rfl⟩) ?_
                      have hH139 : Has E w136 [[Hp.one b35 (.cells #[(.int .i64 h3.st), (.int .i64 h3.cut)] 50 (0, 0))]] := (hH135.front 4 rfl).first 1 rfl
                      refine a_won 10 rfl (by kernel_rfl) hH139 128 rfl (congrArg Value.bool (decide_eq_false h29)) (o_callf (vs := #[(.pointer (some ⟨mb127, 0, none⟩))]) ca25 rfl (args1 rfl) (mpoint_c (h := h3) (db := db13) hH135.all ((CellsAt.one rfl).mono (seg_sub 0 rfl))) ?_)
                      rintro _ w142 ⟨rfl, hX140⟩
                      refine ⟨_, rfl, ?_⟩
                      have hH141 := hX140.of_all
                      have hH143 : Has E w142 [[Hp.one b35 (.cells #[(.int .i64 h3.st), (.int .i64 h3.cut)] 50 (0, 0))]] := (hH141.front 4 rfl).first 1 rfl
                      refine a_done (by kernel_rfl) hH143 ?_
                      refine r_on 12 rfl (by kernel_rfl) 128 rfl (congrArg Value.bool (decide_eq_false h29)) (o_neq50 h3.st h3.cut h3.st h3.cut rfl rfl ?_)
                      refine r_op 13 rfl (by kernel_rfl) (o_pick_f (u := (.bool (!(eqv50 h3.st h3.cut h3.st h3.cut)))) ((rfl : _ = _).trans (congrArg Value.bool (decide_eq_false h29))) rfl ?_)
                      refine Rest.done (by kernel_rfl) ?_
                      refine t_norm (hK131 _ _ ?_)
                      refine c_false rfl h138 ?_
                      refine wp_skip ?_
                      refine b_norm ?_
                      refine t_norm (hK52 _ _ ?_)
                      refine c_region ?_
                      refine s_op (o_move (v := (.int .i64 (i : Int))) e62_7 ?_)
                      refine s_op (o_add (a := (i : Int)) (b := 1) rfl rfl (w64 (by omega) (by omega)) ?_)
                      refine s_op (o_assign (v := (.int .i64 ((i : Int) + 1))) rfl ?_)
                      refine s_nil ?_
                      have hH144 : Has E w142 [sg115, [Hp.one pb14 (.cells #[(.bool p3.off), (.bool p3.armed), (.int .i64 p3.left), (.int .i64 p3.uses)] 78 (0, 0))], [Hp.one mb21 (.cells #[(.int .i64 h3.st), (.int .i64 h3.cut), (.int .i64 h3.seq), (.int .i64 h3.ep), (.int .i64 h3.cut), (.int .i64 h3.st), (.int .i64 h3.mrk), (.pointer (some ⟨db13, 0, none⟩))] 95 (0, 0))], [Hp.one b35 (.cells #[(.int .i64 h3.st), (.int .i64 h3.cut)] 50 (0, 0))], R] := (((((hH141.front 5 rfl).front 5 rfl).front 5 rfl).front 5 rfl).front 5 rfl).first 5 rfl
                      refine t_norm ⟨l.length - (i + 1), _, rfl, ?_, ?_⟩
                      · omega
                      · exact ⟨(i + 1), h3, p3, la3, sg115, rfl, hH144, (by omega), (hd114), (hp3.mono (by omega)), (hln3), (h643), (hkp3), (⟨by omega, by omega⟩), (hz3), (hb3), e62_0, e62_3, e62_4, e62_5, e62_6, rfl, e62_18, e62_37⟩
            · -- not: wb
              refine wp_skip ?_
              refine t_norm (hK58 _ _ ?_)
              refine wp_seq_k fun K145 hK145 => ?_
              refine wp_seq_k fun K146 hK146 => ?_
              have hwT_ := of_decide_eq_false (hwb.symm.trans h68)
              by_cases hw147 : x60.1 = h3.st ∧ x60.2 = h3.cut
              · -- way same
                refine Rest.region mixed (by kernel_rfl) ?_
                have hH148 : Has E { w65 with drawn := w65.drawn + 1 } [sg3, [Hp.one pb14 (.cells #[(.bool p3.off), (.bool p3.armed), (.int .i64 p3.left), (.int .i64 p3.uses)] 78 (0, 0))], [Hp.one mb21 (.cells #[(.int .i64 h3.st), (.int .i64 h3.cut), (.int .i64 h3.seq), (.int .i64 h3.ep), (.int .i64 h3.cut), (.int .i64 h3.st), (.int .i64 h3.mrk), (.pointer (some ⟨db13, 0, none⟩))] 95 (0, 0))], [Hp.one b35 (.cells #[(.int .i64 h3.st), (.int .i64 h3.cut)] 50 (0, 0))], R] := Has0.drew hH66 _
                refine Rest.phaseA (fun w_ => Has E w_ [R]) 0 7 7 rfl (by decide) (by kernel_rfl) ?_
                refine a_op 0 rfl (by kernel_rfl) (fun w_ h_ => o_move (v := (.pointer (some ⟨mb21, 0, none⟩))) e62_4 ⟨rfl, rfl⟩) ?_
                refine a_op 1 rfl (by kernel_rfl) (fun w_ h_ => o_move (v := v) e62_0 ⟨rfl, rfl⟩) ?_
                refine a_op 2 rfl (by kernel_rfl) (fun w_ h_ => o_move (v := (.int .i64 (i : Int))) e62_7 ⟨rfl, rfl⟩) ?_
                obtain ⟨b149, o150, hc151, ho152⟩ := ix_exF ptC_len Tryz.underlying58 ti50 hv (by omega) hx61
                refine a_op 3 rfl (by kernel_rfl) (fun w_ h_ => ho152 rfl rfl ⟨rfl, rfl⟩) ?_
                refine a_op 4 rfl (by kernel_rfl) (fun w_ h_ => o_loadN (cs := [(.int .i64 x60.1), (.int .i64 x60.2)]) Tryz.underlying50 rfl ti50 rfl h_ (seg_sub 0 rfl) hc151 ⟨rfl, rfl⟩) ?_
                refine a_op 6 rfl (by kernel_rfl) (fun w_ h_ => o_move (v := (.int .i64 0)) e62_9 ⟨rfl, rfl⟩) ?_
                have hH153 : Has E { w65 with drawn := w65.drawn + 1 } [R] := (hH148.front 4 rfl).first 1 rfl
                refine a_w 5 rfl (by kernel_rfl) hH153 (o_callf (vs := #[(.pointer (some ⟨mb21, 0, none⟩)), (.agg #[(.int .i64 x60.1), (.int .i64 x60.2)])]) ca24 rfl (args2 rfl rfl) (keep_same (p := p3) (la := la3) (h := h3) (((hH148.front 2 rfl).front 2 rfl).front 2 rfl).all3 hd3 (hg.mono (seg_sub 1 rfl)) (hp3.ok (by omega)) (hp3.use.ok (by omega)) (by rw [hln3]; decide) (pl := x60.1) (pn := x60.2) hw147.1 hw147.2) ?_)
                rintro _ w157 ⟨rfl, hd154, hX155⟩
                refine ⟨_, rfl, ?_⟩
                have hH156 : Has E w157 [sg3, [Hp.one pb14 (.cells #[(.bool p3.off), (.bool p3.armed), (.int .i64 p3.left), (.int .i64 p3.uses)] 78 (0, 0))], [Hp.one mb21 (.cells #[(.int .i64 h3.st), (.int .i64 h3.cut), (.int .i64 h3.seq), (.int .i64 h3.ep), (.int .i64 h3.cut), (.int .i64 h3.st), (.int .i64 h3.mrk), (.pointer (some ⟨db13, 0, none⟩))] 95 (0, 0))], [Hp.one b35 (.cells #[(.int .i64 h3.st), (.int .i64 h3.cut)] 50 (0, 0))], R] := hX155.of_all3
                have hH158 : Has E w157 [R] := (hH156.front 4 rfl).first 1 rfl
                refine a_done (by kernel_rfl) hH158 ?_
                refine r_op 7 rfl (by kernel_rfl) (o_neq (a := (0 : Int)) (b := 0) rfl rfl ?_)
                refine r_op 8 rfl (by kernel_rfl) (o_move (v := (.bool (decide ((0 : Int) ≠ 0)))) rfl ?_)
                refine r_on 9 rfl (by kernel_rfl) 91 rfl (congrArg Value.bool (decide_eq_false h29)) (o_move (v := (.int .i64 0)) e62_9 ?_)
                refine r_on 10 rfl (by kernel_rfl) 91 rfl (congrArg Value.bool (decide_eq_false h29)) (o_eql (a := 0) (b := 0) rfl rfl ?_)
                refine r_on 11 rfl (by kernel_rfl) 91 rfl (congrArg Value.bool (decide_eq_false h29)) (o_move (v := (.bool (decide ((0 : Int) = (0 : Int))))) rfl ?_)
                refine Rest.phaseA (fun w_ => Has E w_ [[Hp.one b35 (.cells #[(.int .i64 h3.st), (.int .i64 h3.cut)] 50 (0, 0))], R]) 12 17 5 rfl (by decide) (by kernel_rfl) ?_
                by_cases h159 : (0 : Int) = (0 : Int)
                · -- (0 : Int) = (0 : Int)
                  refine a_on 12 rfl (by kernel_rfl) 94 rfl (congrArg Value.bool (decide_eq_true h159)) (fun w_ h_ => o_move (v := v) e62_0 ⟨rfl, rfl⟩) ?_
                  refine a_on 13 rfl (by kernel_rfl) 94 rfl (congrArg Value.bool (decide_eq_true h159)) (fun w_ h_ => o_move (v := (.int .i64 (i : Int))) e62_7 ⟨rfl, rfl⟩) ?_
                  obtain ⟨b160, o161, hc162, ho163⟩ := ix_exF ptC_len Tryz.underlying58 ti50 hv (by omega) hx61
                  refine a_on 14 rfl (by kernel_rfl) 94 rfl (congrArg Value.bool (decide_eq_true h159)) (fun w_ h_ => ho163 rfl rfl ⟨rfl, rfl⟩) ?_
                  refine a_on 15 rfl (by kernel_rfl) 94 rfl (congrArg Value.bool (decide_eq_true h159)) (fun w_ h_ => o_loadN (cs := [(.int .i64 x60.1), (.int .i64 x60.2)]) Tryz.underlying50 rfl ti50 rfl h_ (seg_sub 1 rfl) hc162 ⟨rfl, rfl⟩) ?_
                  refine a_on 16 rfl (by kernel_rfl) 94 rfl (congrArg Value.bool (decide_eq_true h159)) (fun w_ h_ => o_loadN (cs := [(.int .i64 h3.st), (.int .i64 h3.cut)]) Tryz.underlying50 rfl ti50 e62_6 h_ (seg_sub 0 rfl) (CellsAt.one rfl) ⟨rfl, rfl⟩) ?_
                  have hH164 : Has E w157 [[Hp.one b35 (.cells #[(.int .i64 h3.st), (.int .i64 h3.cut)] 50 (0, 0))], R] := ((hH156.front 4 rfl).front 4 rfl).first 2 rfl
                  refine a_done (by kernel_rfl) hH164 ?_
                  refine r_on 17 rfl (by kernel_rfl) 94 rfl (congrArg Value.bool (decide_eq_true h159)) (o_eql50 x60.1 x60.2 h3.st h3.cut rfl rfl ?_)
                  refine r_on 18 rfl (by kernel_rfl) 91 rfl (congrArg Value.bool (decide_eq_false h29)) (o_pick_t (u := (.bool (eqv50 x60.1 x60.2 h3.st h3.cut))) ((rfl : _ = _).trans (congrArg Value.bool (decide_eq_true h159))) rfl ?_)
                  refine r_on 19 rfl (by kernel_rfl) 91 rfl (congrArg Value.bool (decide_eq_false h29)) (o_move (v := (.bool (eqv50 x60.1 x60.2 h3.st h3.cut))) rfl ?_)
                  refine Rest.phaseA (fun w_ => Has E w_ []) 20 23 3 rfl (by decide) (by kernel_rfl) ?_
                  rcases Bool.eq_false_or_eq_true (eqv50 x60.1 x60.2 h3.st h3.cut) with h165 | h165
                  · -- eqv50 x60.1 x60.2 h3.st h3.cut
                    refine a_on 20 rfl (by kernel_rfl) 102 rfl (congrArg Value.bool h165) (fun w_ h_ => o_move (v := (.pointer (some ⟨db13, 0, none⟩))) e62_3 ⟨rfl, rfl⟩) ?_
                    refine a_on 22 rfl (by kernel_rfl) 102 rfl (congrArg Value.bool h165) (fun w_ h_ => o_move (v := (.int .i64 p3.uses)) e62_8 ⟨rfl, rfl⟩) ?_
                    have hH166 : Has E w157 [] := hH156.first 0 rfl
                    refine a_won 21 rfl (by kernel_rfl) hH166 102 rfl (congrArg Value.bool h165) (o_callf (vs := #[(.pointer (some ⟨db13, 0, none⟩))]) ca27 rfl (args1 rfl) (duses_d (p := p3) (la := la3) (lo := ([] : List (Int × Bs))) ((hH156.front 1 rfl).front 1 rfl).all2 hd154 ) ?_)
                    rintro _ w169 ⟨rfl, hX167⟩
                    refine ⟨_, rfl, ?_⟩
                    have hH168 : Has E w169 [sg3, [Hp.one pb14 (.cells #[(.bool p3.off), (.bool p3.armed), (.int .i64 p3.left), (.int .i64 p3.uses)] 78 (0, 0))], [Hp.one mb21 (.cells #[(.int .i64 h3.st), (.int .i64 h3.cut), (.int .i64 h3.seq), (.int .i64 h3.ep), (.int .i64 h3.cut), (.int .i64 h3.st), (.int .i64 h3.mrk), (.pointer (some ⟨db13, 0, none⟩))] 95 (0, 0))], [Hp.one b35 (.cells #[(.int .i64 h3.st), (.int .i64 h3.cut)] 50 (0, 0))], R] := hX167.of_all2
                    have hH170 : Has E w169 [] := hH168.first 0 rfl
                    refine a_done (by kernel_rfl) hH170 ?_
                    refine r_on 23 rfl (by kernel_rfl) 102 rfl (congrArg Value.bool h165) (o_neq (a := p3.uses) (b := p3.uses) rfl rfl ?_)
                    refine r_on 24 rfl (by kernel_rfl) 91 rfl (congrArg Value.bool (decide_eq_false h29)) (o_pick_t (u := (.bool (decide (p3.uses ≠ p3.uses)))) ((rfl : _ = _).trans (congrArg Value.bool h165)) rfl ?_)
                    refine r_op 25 rfl (by kernel_rfl) (o_pick_f (u := (.bool (decide (p3.uses ≠ p3.uses)))) ((rfl : _ = _).trans (congrArg Value.bool (decide_eq_false h29))) rfl ?_)
                    refine Rest.done (by kernel_rfl) ?_
                    refine t_norm (hK146 _ _ ?_)
                    refine c_cond rfl (fun h171 => ?_) (fun h171 => ?_)
                    · -- p3.uses ≠ p3.uses
                      exact absurd rfl h171
                    · -- not: p3.uses ≠ p3.uses
                      refine wp_skip ?_
                      refine t_norm (hK145 _ _ ?_)
                      refine wp_seq_k fun K172 hK172 => ?_
                      refine wp_seq_k fun K173 hK173 => ?_
                      refine c_region ?_
                      refine s_op (o_move (v := (.int .i64 0)) e62_9 ?_)
                      refine s_op (o_eql (a := 0) (b := 0) rfl rfl ?_)
                      refine s_nil ?_
                      refine t_norm (hK173 _ _ ?_)
                      refine c_true rfl (decide_eq_true h159) ?_
                      refine c_region ?_
                      refine s_op (o_move (v := v) e62_0 ?_)
                      refine s_op (o_move (v := (.int .i64 (i : Int))) e62_7 ?_)
                      refine s_op (o_indexF ptC_len Tryz.underlying58 ti50 rfl hv rfl rfl (by omega) hx61 fun b174 o175 hc176 => ?_)
                      refine s_op (o_loadN (cs := [(.int .i64 x60.1), (.int .i64 x60.2)]) Tryz.underlying50 rfl ti50 rfl hH168 (seg_sub 4 rfl) hc176 ?_)
                      refine s_eff (o_storeN (vs := [(.int .i64 x60.1), (.int .i64 x60.2)]) (c' := #[(.int .i64 x60.1), (.int .i64 x60.2)]) ti50 e62_6 rfl rfl rfl (by intro u hu; simp only [List.mem_cons, List.not_mem_nil, or_false] at hu; rcases hu with rfl | rfl <;> first | rfl) (by simp) (by kernel_rfl) (hH168.front 3 rfl) fun w177 hH178 => ?_)
                      refine s_nil ?_
                      refine t_norm (hK172 _ _ ?_)
                      refine wp_seq_k fun K179 hK179 => ?_
                      refine c_region ?_
                      refine s_op (o_move (v := (.pointer (some ⟨db13, 0, none⟩))) e62_3 ?_)
                      refine s_op (o_callf (vs := #[(.pointer (some ⟨db13, 0, none⟩))]) ca23 rfl (args1 rfl) (open_yes (p := p3) (la := la3) ((hH178.front 2 rfl).front 2 rfl).all2 hd154 (hg.mono (seg_sub 2 rfl)) h643 (by rw [hln3]; decide) (h := h3) (hkp3.ld (p := p3) (by rw [hln3]; decide) hp3.off).1 (hkp3.ld (p := p3) (by rw [hln3]; decide) hp3.off).2 hz3.1 hz3.2) ?_)
                      rintro _ w183 ⟨mb180, rfl, hX181⟩
                      refine ⟨_, rfl, ?_⟩
                      have hH182 : Has E w183 [[Hp.one mb180 (.cells #[(.int .i64 h3.st), (.int .i64 h3.cut), (.int .i64 h3.seq), (.int .i64 h3.ep), (.int .i64 h3.cut), (.int .i64 h3.st), (.int .i64 h3.mrk), (.pointer (some ⟨db13, 0, none⟩))] 95 (0, 0))], sg3, [Hp.one pb14 (.cells #[(.bool p3.off), (.bool p3.armed), (.int .i64 p3.left), (.int .i64 p3.uses)] 78 (0, 0))], [Hp.one b35 (.cells #[(.int .i64 x60.1), (.int .i64 x60.2)] 50 (0, 0))], [Hp.one mb21 (.cells #[(.int .i64 h3.st), (.int .i64 h3.cut), (.int .i64 h3.seq), (.int .i64 h3.ep), (.int .i64 h3.cut), (.int .i64 h3.st), (.int .i64 h3.mrk), (.pointer (some ⟨db13, 0, none⟩))] 95 (0, 0))], R] := hX181.of_all3
                      refine s_op (o_move (v := (.tuple #[(.pointer (some ⟨mb180, 0, none⟩)), (.int .i64 (0 : Int))])) rfl ?_)
                      refine s_op (o_extract (v := (.pointer (some ⟨mb180, 0, none⟩))) rfl rfl ?_)
                      refine s_op (o_extract (v := (.int .i64 (0 : Int))) rfl rfl ?_)
                      refine s_op (o_assign (v := (.pointer (some ⟨mb180, 0, none⟩))) rfl ?_)
                      refine s_op (o_assign (v := (.int .i64 (0 : Int))) rfl ?_)
                      refine s_nil ?_
                      refine t_norm (hK179 _ _ ?_)
                      refine wp_seq_k fun K184 hK184 => ?_
                      refine Rest.region mixed (by kernel_rfl) ?_
                      have hH185 : Has E { w183 with drawn := w183.drawn + 1 } [[Hp.one mb180 (.cells #[(.int .i64 h3.st), (.int .i64 h3.cut), (.int .i64 h3.seq), (.int .i64 h3.ep), (.int .i64 h3.cut), (.int .i64 h3.st), (.int .i64 h3.mrk), (.pointer (some ⟨db13, 0, none⟩))] 95 (0, 0))], sg3, [Hp.one pb14 (.cells #[(.bool p3.off), (.bool p3.armed), (.int .i64 p3.left), (.int .i64 p3.uses)] 78 (0, 0))], [Hp.one b35 (.cells #[(.int .i64 x60.1), (.int .i64 x60.2)] 50 (0, 0))], [Hp.one mb21 (.cells #[(.int .i64 h3.st), (.int .i64 h3.cut), (.int .i64 h3.seq), (.int .i64 h3.ep), (.int .i64 h3.cut), (.int .i64 h3.st), (.int .i64 h3.mrk), (.pointer (some ⟨db13, 0, none⟩))] 95 (0, 0))], R] := Has0.drew hH182 _
                      refine Rest.phaseA (fun w_ => Has E w_ [[Hp.one b35 (.cells #[(.int .i64 x60.1), (.int .i64 x60.2)] 50 (0, 0))]]) 0 3 3 rfl (by decide) (by kernel_rfl) ?_
                      refine a_op 0 rfl (by kernel_rfl) (fun w_ h_ => o_move (v := (.pointer (some ⟨mb21, 0, none⟩))) e62_4 ⟨rfl, rfl⟩) ?_
                      refine a_op 2 rfl (by kernel_rfl) (fun w_ h_ => o_loadN (cs := [(.int .i64 x60.1), (.int .i64 x60.2)]) Tryz.underlying50 rfl ti50 e62_6 h_ (seg_sub 0 rfl) (CellsAt.one rfl) ⟨rfl, rfl⟩) ?_
                      have hH186 : Has E { w183 with drawn := w183.drawn + 1 } [[Hp.one b35 (.cells #[(.int .i64 x60.1), (.int .i64 x60.2)] 50 (0, 0))]] := (hH185.front 3 rfl).first 1 rfl
                      refine a_w 1 rfl (by kernel_rfl) hH186 (o_callf (vs := #[(.pointer (some ⟨mb21, 0, none⟩))]) ca25 rfl (args1 rfl) (mpoint_c (h := h3) (db := db13) hH185.all ((CellsAt.one rfl).mono (seg_sub 4 rfl))) ?_)
                      rintro _ w189 ⟨rfl, hX187⟩
                      refine ⟨_, rfl, ?_⟩
                      have hH188 := hX187.of_all
                      have hH190 : Has E w189 [[Hp.one b35 (.cells #[(.int .i64 x60.1), (.int .i64 x60.2)] 50 (0, 0))]] := (hH188.front 3 rfl).first 1 rfl
                      refine a_done (by kernel_rfl) hH190 ?_
                      refine r_op 3 rfl (by kernel_rfl) (o_neq50 h3.st h3.cut x60.1 x60.2 rfl rfl ?_)
                      refine r_op 4 rfl (by kernel_rfl) (o_move (v := (.bool (!(eqv50 h3.st h3.cut x60.1 x60.2)))) rfl ?_)
                      rcases Bool.eq_false_or_eq_true (!(eqv50 h3.st h3.cut x60.1 x60.2)) with h191 | h191
                      · -- !(eqv50 h3.st h3.cut x60.1 x60.2)
                        have h191_n : (eqv50 h3.st h3.cut x60.1 x60.2) = false := by simpa using h191
                        exact absurd h191 (by rw [(eqv50_iff _ _ _ _).2 (by first | exact ⟨rfl, rfl⟩ | exact ⟨hw147.1.symm, hw147.2.symm⟩)]; decide)
                      · -- not: !(eqv50 h3.st h3.cut x60.1 x60.2)
                        have h191_n : (eqv50 h3.st h3.cut x60.1 x60.2) = true := by simpa using h191
                        refine r_on 5 rfl (by kernel_rfl) 124 rfl (congrArg Value.bool h191) (o_move (v := (.int .i64 (0 : Int))) rfl ?_)
                        refine r_on 6 rfl (by kernel_rfl) 124 rfl (congrArg Value.bool h191) (o_neq (a := (0 : Int)) (b := 0) rfl rfl ?_)
                        refine r_op 7 rfl (by kernel_rfl) (o_pick_f (u := (.bool (decide ((0 : Int) ≠ 0)))) ((rfl : _ = _).trans (congrArg Value.bool h191)) rfl ?_)
                        refine r_op 8 rfl (by kernel_rfl) (o_move (v := (.bool (decide ((0 : Int) ≠ 0)))) rfl ?_)
                        refine Rest.phaseA (fun w_ => Has E w_ [[Hp.one b35 (.cells #[(.int .i64 x60.1), (.int .i64 x60.2)] 50 (0, 0))]]) 9 12 3 rfl (by decide) (by kernel_rfl) ?_
                        refine a_on 9 rfl (by kernel_rfl) 128 rfl (congrArg Value.bool (decide_eq_false h29)) (fun w_ h_ => o_move (v := (.pointer (some ⟨mb180, 0, none⟩))) rfl ⟨rfl, rfl⟩) ?_
                        refine a_on 11 rfl (by kernel_rfl) 128 rfl (congrArg Value.bool (decide_eq_false h29)) (fun w_ h_ => o_loadN (cs := [(.int .i64 x60.1), (.int .i64 x60.2)]) Tryz.underlying50 rfl ti50 e62_6 h_ (seg_sub 0 rfl) (CellsAt.one rfl) ⟨rfl, rfl⟩) ?_
                        have hH192 : Has E w189 [[Hp.one b35 (.cells #[(.int .i64 x60.1), (.int .i64 x60.2)] 50 (0, 0))]] := (hH188.front 3 rfl).first 1 rfl
                        refine a_won 10 rfl (by kernel_rfl) hH192 128 rfl (congrArg Value.bool (decide_eq_false h29)) (o_callf (vs := #[(.pointer (some ⟨mb180, 0, none⟩))]) ca25 rfl (args1 rfl) (mpoint_c (h := h3) (db := db13) hH188.all ((CellsAt.one rfl).mono (seg_sub 0 rfl))) ?_)
                        rintro _ w195 ⟨rfl, hX193⟩
                        refine ⟨_, rfl, ?_⟩
                        have hH194 := hX193.of_all
                        have hH196 : Has E w195 [[Hp.one b35 (.cells #[(.int .i64 x60.1), (.int .i64 x60.2)] 50 (0, 0))]] := (hH194.front 3 rfl).first 1 rfl
                        refine a_done (by kernel_rfl) hH196 ?_
                        refine r_on 12 rfl (by kernel_rfl) 128 rfl (congrArg Value.bool (decide_eq_false h29)) (o_neq50 h3.st h3.cut x60.1 x60.2 rfl rfl ?_)
                        refine r_op 13 rfl (by kernel_rfl) (o_pick_f (u := (.bool (!(eqv50 h3.st h3.cut x60.1 x60.2)))) ((rfl : _ = _).trans (congrArg Value.bool (decide_eq_false h29))) rfl ?_)
                        refine Rest.done (by kernel_rfl) ?_
                        refine t_norm (hK184 _ _ ?_)
                        refine c_false rfl h191 ?_
                        refine wp_skip ?_
                        refine b_norm ?_
                        refine t_norm (hK52 _ _ ?_)
                        refine c_region ?_
                        refine s_op (o_move (v := (.int .i64 (i : Int))) e62_7 ?_)
                        refine s_op (o_add (a := (i : Int)) (b := 1) rfl rfl (w64 (by omega) (by omega)) ?_)
                        refine s_op (o_assign (v := (.int .i64 ((i : Int) + 1))) rfl ?_)
                        refine s_nil ?_
                        have hH197 := hH194
                        rw [hw147.1, hw147.2] at hH197
                        have hH198 : Has E w195 [sg3, [Hp.one pb14 (.cells #[(.bool p3.off), (.bool p3.armed), (.int .i64 p3.left), (.int .i64 p3.uses)] 78 (0, 0))], [Hp.one mb21 (.cells #[(.int .i64 h3.st), (.int .i64 h3.cut), (.int .i64 h3.seq), (.int .i64 h3.ep), (.int .i64 h3.cut), (.int .i64 h3.st), (.int .i64 h3.mrk), (.pointer (some ⟨db13, 0, none⟩))] 95 (0, 0))], [Hp.one b35 (.cells #[(.int .i64 h3.st), (.int .i64 h3.cut)] 50 (0, 0))], R] := (((((hH197.front 5 rfl).front 4 rfl).front 5 rfl).front 5 rfl).front 5 rfl).first 5 rfl
                        refine t_norm ⟨l.length - (i + 1), _, rfl, ?_, ?_⟩
                        · omega
                        · exact ⟨(i + 1), h3, p3, la3, sg3, rfl, hH198, (by omega), (hd154), (hp3.mono (by omega)), (hln3), (h643), (hkp3), (⟨by omega, by omega⟩), (hz3), (hb3), e62_0, e62_3, e62_4, e62_5, e62_6, rfl, e62_18, e62_37⟩
                  · -- not: eqv50 x60.1 x60.2 h3.st h3.cut
                    exact absurd ((eqv50_iff _ _ _ _).2 hw147) (by rw [h165]; decide)
                · -- not: (0 : Int) = (0 : Int)
                  exact absurd h159 (by decide)
              · -- way ok
                refine Rest.region mixed (by kernel_rfl) ?_
                have hH199 : Has E { w65 with drawn := w65.drawn + 1 } [sg3, [Hp.one pb14 (.cells #[(.bool p3.off), (.bool p3.armed), (.int .i64 p3.left), (.int .i64 p3.uses)] 78 (0, 0))], [Hp.one mb21 (.cells #[(.int .i64 h3.st), (.int .i64 h3.cut), (.int .i64 h3.seq), (.int .i64 h3.ep), (.int .i64 h3.cut), (.int .i64 h3.st), (.int .i64 h3.mrk), (.pointer (some ⟨db13, 0, none⟩))] 95 (0, 0))], [Hp.one b35 (.cells #[(.int .i64 h3.st), (.int .i64 h3.cut)] 50 (0, 0))], R] := Has0.drew hH66 _
                refine Rest.phaseA (fun w_ => Has E w_ [R]) 0 7 7 rfl (by decide) (by kernel_rfl) ?_
                refine a_op 0 rfl (by kernel_rfl) (fun w_ h_ => o_move (v := (.pointer (some ⟨mb21, 0, none⟩))) e62_4 ⟨rfl, rfl⟩) ?_
                refine a_op 1 rfl (by kernel_rfl) (fun w_ h_ => o_move (v := v) e62_0 ⟨rfl, rfl⟩) ?_
                refine a_op 2 rfl (by kernel_rfl) (fun w_ h_ => o_move (v := (.int .i64 (i : Int))) e62_7 ⟨rfl, rfl⟩) ?_
                obtain ⟨b200, o201, hc202, ho203⟩ := ix_exF ptC_len Tryz.underlying58 ti50 hv (by omega) hx61
                refine a_op 3 rfl (by kernel_rfl) (fun w_ h_ => ho203 rfl rfl ⟨rfl, rfl⟩) ?_
                refine a_op 4 rfl (by kernel_rfl) (fun w_ h_ => o_loadN (cs := [(.int .i64 x60.1), (.int .i64 x60.2)]) Tryz.underlying50 rfl ti50 rfl h_ (seg_sub 0 rfl) hc202 ⟨rfl, rfl⟩) ?_
                refine a_op 6 rfl (by kernel_rfl) (fun w_ h_ => o_move (v := (.int .i64 0)) e62_9 ⟨rfl, rfl⟩) ?_
                have hH204 : Has E { w65 with drawn := w65.drawn + 1 } [R] := (hH199.front 4 rfl).first 1 rfl
                have hT_ : svTry la3.length 0 (hdK h3 x60.1 x60.2) := pt_try (by rw [hln3]; decide) ⟨by omega, by omega⟩ ⟨by omega, by omega⟩ ⟨by omega, by omega⟩
                refine a_w 5 rfl (by kernel_rfl) hH204 (o_callf (vs := #[(.pointer (some ⟨mb21, 0, none⟩)), (.agg #[(.int .i64 x60.1), (.int .i64 x60.2)])]) ca24 rfl (args2 rfl rfl) (keep_ok (p := p3) (la := la3) (h := h3) (((hH199.front 2 rfl).front 2 rfl).front 2 rfl).all3 hd3 (hg.mono (seg_sub 1 rfl)) (hp3.ok (by omega)) (hp3.use.ok (by omega)) (by rw [hln3]; decide) (pl := x60.1) (pn := x60.2) ⟨by omega, by omega⟩ hw147 hT_ hp3.b hp3.use.b) ?_)
                rintro _ w209 ⟨sg206, rfl, hd205, hX207⟩
                refine ⟨_, rfl, ?_⟩
                have hH208 : Has E w209 [sg206, [Hp.one pb14 (.cells #[(.bool (useS (useS p3)).off), (.bool (useS (useS p3)).armed), (.int .i64 (useS (useS p3)).left), (.int .i64 (useS (useS p3)).uses)] 78 (0, 0))], [Hp.one mb21 (.cells #[(.int .i64 (hdUp (hdK h3 x60.1 x60.2)).st), (.int .i64 (hdUp (hdK h3 x60.1 x60.2)).cut), (.int .i64 (hdUp (hdK h3 x60.1 x60.2)).seq), (.int .i64 (hdUp (hdK h3 x60.1 x60.2)).ep), (.int .i64 (hdUp (hdK h3 x60.1 x60.2)).cut), (.int .i64 (hdUp (hdK h3 x60.1 x60.2)).st), (.int .i64 (hdUp (hdK h3 x60.1 x60.2)).mrk), (.pointer (some ⟨db13, 0, none⟩))] 95 (0, 0))], [Hp.one b35 (.cells #[(.int .i64 h3.st), (.int .i64 h3.cut)] 50 (0, 0))], R] := hX207.of_all3
                have hH210 : Has E w209 [R] := (hH208.front 4 rfl).first 1 rfl
                refine a_done (by kernel_rfl) hH210 ?_
                refine r_op 7 rfl (by kernel_rfl) (o_neq (a := (0 : Int)) (b := 0) rfl rfl ?_)
                refine r_op 8 rfl (by kernel_rfl) (o_move (v := (.bool (decide ((0 : Int) ≠ 0)))) rfl ?_)
                refine r_on 9 rfl (by kernel_rfl) 91 rfl (congrArg Value.bool (decide_eq_false h29)) (o_move (v := (.int .i64 0)) e62_9 ?_)
                refine r_on 10 rfl (by kernel_rfl) 91 rfl (congrArg Value.bool (decide_eq_false h29)) (o_eql (a := 0) (b := 0) rfl rfl ?_)
                refine r_on 11 rfl (by kernel_rfl) 91 rfl (congrArg Value.bool (decide_eq_false h29)) (o_move (v := (.bool (decide ((0 : Int) = (0 : Int))))) rfl ?_)
                refine Rest.phaseA (fun w_ => Has E w_ [[Hp.one b35 (.cells #[(.int .i64 h3.st), (.int .i64 h3.cut)] 50 (0, 0))], R]) 12 17 5 rfl (by decide) (by kernel_rfl) ?_
                by_cases h211 : (0 : Int) = (0 : Int)
                · -- (0 : Int) = (0 : Int)
                  refine a_on 12 rfl (by kernel_rfl) 94 rfl (congrArg Value.bool (decide_eq_true h211)) (fun w_ h_ => o_move (v := v) e62_0 ⟨rfl, rfl⟩) ?_
                  refine a_on 13 rfl (by kernel_rfl) 94 rfl (congrArg Value.bool (decide_eq_true h211)) (fun w_ h_ => o_move (v := (.int .i64 (i : Int))) e62_7 ⟨rfl, rfl⟩) ?_
                  obtain ⟨b212, o213, hc214, ho215⟩ := ix_exF ptC_len Tryz.underlying58 ti50 hv (by omega) hx61
                  refine a_on 14 rfl (by kernel_rfl) 94 rfl (congrArg Value.bool (decide_eq_true h211)) (fun w_ h_ => ho215 rfl rfl ⟨rfl, rfl⟩) ?_
                  refine a_on 15 rfl (by kernel_rfl) 94 rfl (congrArg Value.bool (decide_eq_true h211)) (fun w_ h_ => o_loadN (cs := [(.int .i64 x60.1), (.int .i64 x60.2)]) Tryz.underlying50 rfl ti50 rfl h_ (seg_sub 1 rfl) hc214 ⟨rfl, rfl⟩) ?_
                  refine a_on 16 rfl (by kernel_rfl) 94 rfl (congrArg Value.bool (decide_eq_true h211)) (fun w_ h_ => o_loadN (cs := [(.int .i64 h3.st), (.int .i64 h3.cut)]) Tryz.underlying50 rfl ti50 e62_6 h_ (seg_sub 0 rfl) (CellsAt.one rfl) ⟨rfl, rfl⟩) ?_
                  have hH216 : Has E w209 [[Hp.one b35 (.cells #[(.int .i64 h3.st), (.int .i64 h3.cut)] 50 (0, 0))], R] := ((hH208.front 4 rfl).front 4 rfl).first 2 rfl
                  refine a_done (by kernel_rfl) hH216 ?_
                  refine r_on 17 rfl (by kernel_rfl) 94 rfl (congrArg Value.bool (decide_eq_true h211)) (o_eql50 x60.1 x60.2 h3.st h3.cut rfl rfl ?_)
                  refine r_on 18 rfl (by kernel_rfl) 91 rfl (congrArg Value.bool (decide_eq_false h29)) (o_pick_t (u := (.bool (eqv50 x60.1 x60.2 h3.st h3.cut))) ((rfl : _ = _).trans (congrArg Value.bool (decide_eq_true h211))) rfl ?_)
                  refine r_on 19 rfl (by kernel_rfl) 91 rfl (congrArg Value.bool (decide_eq_false h29)) (o_move (v := (.bool (eqv50 x60.1 x60.2 h3.st h3.cut))) rfl ?_)
                  refine Rest.phaseA (fun w_ => Has E w_ []) 20 23 3 rfl (by decide) (by kernel_rfl) ?_
                  rcases Bool.eq_false_or_eq_true (eqv50 x60.1 x60.2 h3.st h3.cut) with h217 | h217
                  · -- eqv50 x60.1 x60.2 h3.st h3.cut
                    exact absurd ((eqv50_iff _ _ _ _).1 h217) hw147
                  · -- not: eqv50 x60.1 x60.2 h3.st h3.cut
                    refine a_off (b' := false) 20 rfl (by kernel_rfl) 102 rfl (congrArg Value.bool h217) rfl ?_
                    refine a_off (b' := false) 22 rfl (by kernel_rfl) 102 rfl (congrArg Value.bool h217) rfl ?_
                    refine a_off (b' := false) 21 rfl (by kernel_rfl) 102 rfl (congrArg Value.bool h217) rfl ?_
                    have hH218 : Has E w209 [] := hH208.first 0 rfl
                    refine a_done (by kernel_rfl) hH218 ?_
                    refine r_off (b' := false) 23 rfl (by kernel_rfl) 102 rfl (congrArg Value.bool h217) rfl ?_
                    refine r_on 24 rfl (by kernel_rfl) 91 rfl (congrArg Value.bool (decide_eq_false h29)) (o_pick_f (u := (.bool false)) ((rfl : _ = _).trans (congrArg Value.bool h217)) rfl ?_)
                    refine r_op 25 rfl (by kernel_rfl) (o_pick_f (u := (.bool false)) ((rfl : _ = _).trans (congrArg Value.bool (decide_eq_false h29))) rfl ?_)
                    refine Rest.done (by kernel_rfl) ?_
                    refine t_norm (hK146 _ _ ?_)
                    refine c_false rfl rfl ?_
                    refine wp_skip ?_
                    refine t_norm (hK145 _ _ ?_)
                    refine wp_seq_k fun K219 hK219 => ?_
                    refine wp_seq_k fun K220 hK220 => ?_
                    refine c_region ?_
                    refine s_op (o_move (v := (.int .i64 0)) e62_9 ?_)
                    refine s_op (o_eql (a := 0) (b := 0) rfl rfl ?_)
                    refine s_nil ?_
                    refine t_norm (hK220 _ _ ?_)
                    refine c_true rfl (decide_eq_true h211) ?_
                    refine c_region ?_
                    refine s_op (o_move (v := v) e62_0 ?_)
                    refine s_op (o_move (v := (.int .i64 (i : Int))) e62_7 ?_)
                    refine s_op (o_indexF ptC_len Tryz.underlying58 ti50 rfl hv rfl rfl (by omega) hx61 fun b221 o222 hc223 => ?_)
                    refine s_op (o_loadN (cs := [(.int .i64 x60.1), (.int .i64 x60.2)]) Tryz.underlying50 rfl ti50 rfl hH208 (seg_sub 4 rfl) hc223 ?_)
                    refine s_eff (o_storeN (vs := [(.int .i64 x60.1), (.int .i64 x60.2)]) (c' := #[(.int .i64 x60.1), (.int .i64 x60.2)]) ti50 e62_6 rfl rfl rfl (by intro u hu; simp only [List.mem_cons, List.not_mem_nil, or_false] at hu; rcases hu with rfl | rfl <;> first | rfl) (by simp) (by kernel_rfl) (hH208.front 3 rfl) fun w224 hH225 => ?_)
                    refine s_nil ?_
                    refine t_norm (hK219 _ _ ?_)
                    refine wp_seq_k fun K226 hK226 => ?_
                    refine c_region ?_
                    refine s_op (o_move (v := (.pointer (some ⟨db13, 0, none⟩))) e62_3 ?_)
                    refine s_op (o_callf (vs := #[(.pointer (some ⟨db13, 0, none⟩))]) ca23 rfl (args1 rfl) (open_yes (p := (useS (useS p3))) (la := (la3.set (svN 0 (hdK h3 x60.1 x60.2)).toNat (hdL (hdUp (hdK h3 x60.1 x60.2))))) ((hH225.front 2 rfl).front 2 rfl).all2 hd205 (hg.mono (seg_sub 2 rfl)) (set_64 h643 hT_.1) (by rw [List.length_set, hln3]; decide) (h := (hdUp (hdK h3 x60.1 x60.2))) ((hkp3.set hT_ rfl).ld (p := (useS (useS p3))) (by rw [List.length_set, hln3]; decide) hp3.use.use.off).1 ((hkp3.set hT_ rfl).ld (p := (useS (useS p3))) (by rw [List.length_set, hln3]; decide) hp3.use.use.off).2 rfl rfl) ?_)
                    rintro _ w230 ⟨mb227, rfl, hX228⟩
                    refine ⟨_, rfl, ?_⟩
                    have hH229 : Has E w230 [[Hp.one mb227 (.cells #[(.int .i64 (hdUp (hdK h3 x60.1 x60.2)).st), (.int .i64 (hdUp (hdK h3 x60.1 x60.2)).cut), (.int .i64 (hdUp (hdK h3 x60.1 x60.2)).seq), (.int .i64 (hdUp (hdK h3 x60.1 x60.2)).ep), (.int .i64 (hdUp (hdK h3 x60.1 x60.2)).cut), (.int .i64 (hdUp (hdK h3 x60.1 x60.2)).st), (.int .i64 (hdUp (hdK h3 x60.1 x60.2)).mrk), (.pointer (some ⟨db13, 0, none⟩))] 95 (0, 0))], sg206, [Hp.one pb14 (.cells #[(.bool (useS (useS p3)).off), (.bool (useS (useS p3)).armed), (.int .i64 (useS (useS p3)).left), (.int .i64 (useS (useS p3)).uses)] 78 (0, 0))], [Hp.one b35 (.cells #[(.int .i64 x60.1), (.int .i64 x60.2)] 50 (0, 0))], [Hp.one mb21 (.cells #[(.int .i64 (hdUp (hdK h3 x60.1 x60.2)).st), (.int .i64 (hdUp (hdK h3 x60.1 x60.2)).cut), (.int .i64 (hdUp (hdK h3 x60.1 x60.2)).seq), (.int .i64 (hdUp (hdK h3 x60.1 x60.2)).ep), (.int .i64 (hdUp (hdK h3 x60.1 x60.2)).cut), (.int .i64 (hdUp (hdK h3 x60.1 x60.2)).st), (.int .i64 (hdUp (hdK h3 x60.1 x60.2)).mrk), (.pointer (some ⟨db13, 0, none⟩))] 95 (0, 0))], R] := hX228.of_all3
                    refine s_op (o_move (v := (.tuple #[(.pointer (some ⟨mb227, 0, none⟩)), (.int .i64 (0 : Int))])) rfl ?_)
                    refine s_op (o_extract (v := (.pointer (some ⟨mb227, 0, none⟩))) rfl rfl ?_)
                    refine s_op (o_extract (v := (.int .i64 (0 : Int))) rfl rfl ?_)
                    refine s_op (o_assign (v := (.pointer (some ⟨mb227, 0, none⟩))) rfl ?_)
                    refine s_op (o_assign (v := (.int .i64 (0 : Int))) rfl ?_)
                    refine s_nil ?_
                    refine t_norm (hK226 _ _ ?_)
                    refine wp_seq_k fun K231 hK231 => ?_
                    refine Rest.region mixed (by kernel_rfl) ?_
                    have hH232 : Has E { w230 with drawn := w230.drawn + 1 } [[Hp.one mb227 (.cells #[(.int .i64 (hdUp (hdK h3 x60.1 x60.2)).st), (.int .i64 (hdUp (hdK h3 x60.1 x60.2)).cut), (.int .i64 (hdUp (hdK h3 x60.1 x60.2)).seq), (.int .i64 (hdUp (hdK h3 x60.1 x60.2)).ep), (.int .i64 (hdUp (hdK h3 x60.1 x60.2)).cut), (.int .i64 (hdUp (hdK h3 x60.1 x60.2)).st), (.int .i64 (hdUp (hdK h3 x60.1 x60.2)).mrk), (.pointer (some ⟨db13, 0, none⟩))] 95 (0, 0))], sg206, [Hp.one pb14 (.cells #[(.bool (useS (useS p3)).off), (.bool (useS (useS p3)).armed), (.int .i64 (useS (useS p3)).left), (.int .i64 (useS (useS p3)).uses)] 78 (0, 0))], [Hp.one b35 (.cells #[(.int .i64 x60.1), (.int .i64 x60.2)] 50 (0, 0))], [Hp.one mb21 (.cells #[(.int .i64 (hdUp (hdK h3 x60.1 x60.2)).st), (.int .i64 (hdUp (hdK h3 x60.1 x60.2)).cut), (.int .i64 (hdUp (hdK h3 x60.1 x60.2)).seq), (.int .i64 (hdUp (hdK h3 x60.1 x60.2)).ep), (.int .i64 (hdUp (hdK h3 x60.1 x60.2)).cut), (.int .i64 (hdUp (hdK h3 x60.1 x60.2)).st), (.int .i64 (hdUp (hdK h3 x60.1 x60.2)).mrk), (.pointer (some ⟨db13, 0, none⟩))] 95 (0, 0))], R] := Has0.drew hH229 _
                    refine Rest.phaseA (fun w_ => Has E w_ [[Hp.one b35 (.cells #[(.int .i64 x60.1), (.int .i64 x60.2)] 50 (0, 0))]]) 0 3 3 rfl (by decide) (by kernel_rfl) ?_
                    refine a_op 0 rfl (by kernel_rfl) (fun w_ h_ => o_move (v := (.pointer (some ⟨mb21, 0, none⟩))) e62_4 ⟨rfl, rfl⟩) ?_
                    refine a_op 2 rfl (by kernel_rfl) (fun w_ h_ => o_loadN (cs := [(.int .i64 x60.1), (.int .i64 x60.2)]) Tryz.underlying50 rfl ti50 e62_6 h_ (seg_sub 0 rfl) (CellsAt.one rfl) ⟨rfl, rfl⟩) ?_
                    have hH233 : Has E { w230 with drawn := w230.drawn + 1 } [[Hp.one b35 (.cells #[(.int .i64 x60.1), (.int .i64 x60.2)] 50 (0, 0))]] := (hH232.front 3 rfl).first 1 rfl
                    refine a_w 1 rfl (by kernel_rfl) hH233 (o_callf (vs := #[(.pointer (some ⟨mb21, 0, none⟩))]) ca25 rfl (args1 rfl) (mpoint_c (h := (hdUp (hdK h3 x60.1 x60.2))) (db := db13) hH232.all ((CellsAt.one rfl).mono (seg_sub 4 rfl))) ?_)
                    rintro _ w236 ⟨rfl, hX234⟩
                    refine ⟨_, rfl, ?_⟩
                    have hH235 := hX234.of_all
                    have hH237 : Has E w236 [[Hp.one b35 (.cells #[(.int .i64 x60.1), (.int .i64 x60.2)] 50 (0, 0))]] := (hH235.front 3 rfl).first 1 rfl
                    refine a_done (by kernel_rfl) hH237 ?_
                    refine r_op 3 rfl (by kernel_rfl) (o_neq50 ((hdUp (hdK h3 x60.1 x60.2)).st) ((hdUp (hdK h3 x60.1 x60.2)).cut) x60.1 x60.2 rfl rfl ?_)
                    refine r_op 4 rfl (by kernel_rfl) (o_move (v := (.bool (!(eqv50 ((hdUp (hdK h3 x60.1 x60.2)).st) ((hdUp (hdK h3 x60.1 x60.2)).cut) x60.1 x60.2)))) rfl ?_)
                    rcases Bool.eq_false_or_eq_true (!(eqv50 ((hdUp (hdK h3 x60.1 x60.2)).st) ((hdUp (hdK h3 x60.1 x60.2)).cut) x60.1 x60.2)) with h238 | h238
                    · -- !(eqv50 ((hdUp (hdK h3 x60.1 x60.2)).st) ((hdUp (hdK h3 x60.1 x60.2)).cut) x60.1 x60.2)
                      have h238_n : (eqv50 ((hdUp (hdK h3 x60.1 x60.2)).st) ((hdUp (hdK h3 x60.1 x60.2)).cut) x60.1 x60.2) = false := by simpa using h238
                      exact absurd h238 (by rw [(eqv50_iff _ _ _ _).2 (by first | exact ⟨rfl, rfl⟩ | exact ⟨hw147.1.symm, hw147.2.symm⟩)]; decide)
                    · -- not: !(eqv50 ((hdUp (hdK h3 x60.1 x60.2)).st) ((hdUp (hdK h3 x60.1 x60.2)).cut) x60.1 x60.2)
                      have h238_n : (eqv50 ((hdUp (hdK h3 x60.1 x60.2)).st) ((hdUp (hdK h3 x60.1 x60.2)).cut) x60.1 x60.2) = true := by simpa using h238
                      refine r_on 5 rfl (by kernel_rfl) 124 rfl (congrArg Value.bool h238) (o_move (v := (.int .i64 (0 : Int))) rfl ?_)
                      refine r_on 6 rfl (by kernel_rfl) 124 rfl (congrArg Value.bool h238) (o_neq (a := (0 : Int)) (b := 0) rfl rfl ?_)
                      refine r_op 7 rfl (by kernel_rfl) (o_pick_f (u := (.bool (decide ((0 : Int) ≠ 0)))) ((rfl : _ = _).trans (congrArg Value.bool h238)) rfl ?_)
                      refine r_op 8 rfl (by kernel_rfl) (o_move (v := (.bool (decide ((0 : Int) ≠ 0)))) rfl ?_)
                      refine Rest.phaseA (fun w_ => Has E w_ [[Hp.one b35 (.cells #[(.int .i64 x60.1), (.int .i64 x60.2)] 50 (0, 0))]]) 9 12 3 rfl (by decide) (by kernel_rfl) ?_
                      refine a_on 9 rfl (by kernel_rfl) 128 rfl (congrArg Value.bool (decide_eq_false h29)) (fun w_ h_ => o_move (v := (.pointer (some ⟨mb227, 0, none⟩))) rfl ⟨rfl, rfl⟩) ?_
                      refine a_on 11 rfl (by kernel_rfl) 128 rfl (congrArg Value.bool (decide_eq_false h29)) (fun w_ h_ => o_loadN (cs := [(.int .i64 x60.1), (.int .i64 x60.2)]) Tryz.underlying50 rfl ti50 e62_6 h_ (seg_sub 0 rfl) (CellsAt.one rfl) ⟨rfl, rfl⟩) ?_
                      have hH239 : Has E w236 [[Hp.one b35 (.cells #[(.int .i64 x60.1), (.int .i64 x60.2)] 50 (0, 0))]] := (hH235.front 3 rfl).first 1 rfl
                      refine a_won 10 rfl (by kernel_rfl) hH239 128 rfl (congrArg Value.bool (decide_eq_false h29)) (o_callf (vs := #[(.pointer (some ⟨mb227, 0, none⟩))]) ca25 rfl (args1 rfl) (mpoint_c (h := (hdUp (hdK h3 x60.1 x60.2))) (db := db13) hH235.all ((CellsAt.one rfl).mono (seg_sub 0 rfl))) ?_)
                      rintro _ w242 ⟨rfl, hX240⟩
                      refine ⟨_, rfl, ?_⟩
                      have hH241 := hX240.of_all
                      have hH243 : Has E w242 [[Hp.one b35 (.cells #[(.int .i64 x60.1), (.int .i64 x60.2)] 50 (0, 0))]] := (hH241.front 3 rfl).first 1 rfl
                      refine a_done (by kernel_rfl) hH243 ?_
                      refine r_on 12 rfl (by kernel_rfl) 128 rfl (congrArg Value.bool (decide_eq_false h29)) (o_neq50 ((hdUp (hdK h3 x60.1 x60.2)).st) ((hdUp (hdK h3 x60.1 x60.2)).cut) x60.1 x60.2 rfl rfl ?_)
                      refine r_op 13 rfl (by kernel_rfl) (o_pick_f (u := (.bool (!(eqv50 ((hdUp (hdK h3 x60.1 x60.2)).st) ((hdUp (hdK h3 x60.1 x60.2)).cut) x60.1 x60.2)))) ((rfl : _ = _).trans (congrArg Value.bool (decide_eq_false h29))) rfl ?_)
                      refine Rest.done (by kernel_rfl) ?_
                      refine t_norm (hK231 _ _ ?_)
                      refine c_false rfl h238 ?_
                      refine wp_skip ?_
                      refine b_norm ?_
                      refine t_norm (hK52 _ _ ?_)
                      refine c_region ?_
                      refine s_op (o_move (v := (.int .i64 (i : Int))) e62_7 ?_)
                      refine s_op (o_add (a := (i : Int)) (b := 1) rfl rfl (w64 (by omega) (by omega)) ?_)
                      refine s_op (o_assign (v := (.int .i64 ((i : Int) + 1))) rfl ?_)
                      refine s_nil ?_
                      have hH244 : Has E w242 [[Hp.one mb227 (.cells #[(.int .i64 (hdUp (hdK h3 x60.1 x60.2)).st), (.int .i64 (hdUp (hdK h3 x60.1 x60.2)).cut), (.int .i64 (hdUp (hdK h3 x60.1 x60.2)).seq), (.int .i64 (hdUp (hdK h3 x60.1 x60.2)).ep), (.int .i64 (hdUp (hdK h3 x60.1 x60.2)).cut), (.int .i64 (hdUp (hdK h3 x60.1 x60.2)).st), (.int .i64 (hdUp (hdK h3 x60.1 x60.2)).mrk), (.pointer (some ⟨db13, 0, none⟩))] 95 (0, 0))], sg206, [Hp.one pb14 (.cells #[(.bool (useS (useS p3)).off), (.bool (useS (useS p3)).armed), (.int .i64 (useS (useS p3)).left), (.int .i64 (useS (useS p3)).uses)] 78 (0, 0))], [Hp.one b35 (.cells #[(.int .i64 (hdUp (hdK h3 x60.1 x60.2)).st), (.int .i64 (hdUp (hdK h3 x60.1 x60.2)).cut)] 50 (0, 0))], [Hp.one mb21 (.cells #[(.int .i64 (hdUp (hdK h3 x60.1 x60.2)).st), (.int .i64 (hdUp (hdK h3 x60.1 x60.2)).cut), (.int .i64 (hdUp (hdK h3 x60.1 x60.2)).seq), (.int .i64 (hdUp (hdK h3 x60.1 x60.2)).ep), (.int .i64 (hdUp (hdK h3 x60.1 x60.2)).cut), (.int .i64 (hdUp (hdK h3 x60.1 x60.2)).st), (.int .i64 (hdUp (hdK h3 x60.1 x60.2)).mrk), (.pointer (some ⟨db13, 0, none⟩))] 95 (0, 0))], R] := hH241
                      have hH245 : Has E w242 [sg206, [Hp.one pb14 (.cells #[(.bool (useS (useS p3)).off), (.bool (useS (useS p3)).armed), (.int .i64 (useS (useS p3)).left), (.int .i64 (useS (useS p3)).uses)] 78 (0, 0))], [Hp.one mb21 (.cells #[(.int .i64 (hdUp (hdK h3 x60.1 x60.2)).st), (.int .i64 (hdUp (hdK h3 x60.1 x60.2)).cut), (.int .i64 (hdUp (hdK h3 x60.1 x60.2)).seq), (.int .i64 (hdUp (hdK h3 x60.1 x60.2)).ep), (.int .i64 (hdUp (hdK h3 x60.1 x60.2)).cut), (.int .i64 (hdUp (hdK h3 x60.1 x60.2)).st), (.int .i64 (hdUp (hdK h3 x60.1 x60.2)).mrk), (.pointer (some ⟨db13, 0, none⟩))] 95 (0, 0))], [Hp.one b35 (.cells #[(.int .i64 (hdUp (hdK h3 x60.1 x60.2)).st), (.int .i64 (hdUp (hdK h3 x60.1 x60.2)).cut)] 50 (0, 0))], R] := (((((hH244.front 5 rfl).front 4 rfl).front 5 rfl).front 5 rfl).front 5 rfl).first 5 rfl
                      refine t_norm ⟨l.length - (i + 1), _, rfl, ?_, ?_⟩
                      · omega
                      · exact ⟨(i + 1), (hdUp (hdK h3 x60.1 x60.2)), (useS (useS p3)), (la3.set (svN 0 (hdK h3 x60.1 x60.2)).toNat (hdL (hdUp (hdK h3 x60.1 x60.2)))), sg206, rfl, hH245, (by omega), (hd205), (hp3.use.use.mono (by omega)), (by rw [List.length_set]; exact hln3), (set_64 h643 hT_.1), (hkp3.set hT_ rfl), (⟨by show 1 ≤ h3.seq + 1; omega, by show h3.seq + 1 ≤ _; omega⟩), (⟨rfl, rfl⟩), (⟨⟨by show 0 ≤ x60.1; omega, by show x60.1 ≤ _; omega⟩, by show 0 ≤ x60.2; omega, by show x60.2 ≤ _; omega⟩), e62_0, e62_3, e62_4, e62_5, e62_6, rfl, e62_18, e62_37⟩
                · -- not: (0 : Int) = (0 : Int)
                  exact absurd h211 (by decide)
          refine Rest.region mixed (by kernel_rfl) ?_
          have hH246 : Has E { w56 with drawn := w56.drawn + 1 } [sg3, [Hp.one pb14 (.cells #[(.bool p3.off), (.bool p3.armed), (.int .i64 p3.left), (.int .i64 p3.uses)] 78 (0, 0))], [Hp.one mb21 (.cells #[(.int .i64 h3.st), (.int .i64 h3.cut), (.int .i64 h3.seq), (.int .i64 h3.ep), (.int .i64 h3.cut), (.int .i64 h3.st), (.int .i64 h3.mrk), (.pointer (some ⟨db13, 0, none⟩))] 95 (0, 0))], [Hp.one b35 (.cells #[(.int .i64 h3.st), (.int .i64 h3.cut)] 50 (0, 0))], R] := Has0.drew hH55 _
          refine Rest.phaseA (fun w_ => Has E w_ [[Hp.one b35 (.cells #[(.int .i64 h3.st), (.int .i64 h3.cut)] 50 (0, 0))], R]) 0 7 7 rfl (by decide) (by kernel_rfl) ?_
          refine a_op 0 rfl (by kernel_rfl) (fun w_ h_ => o_move (v := v) e43_0 ⟨rfl, rfl⟩) ?_
          refine a_op 1 rfl (by kernel_rfl) (fun w_ h_ => o_move (v := (.int .i64 (i : Int))) e43_7 ⟨rfl, rfl⟩) ?_
          obtain ⟨b247, o248, hc249, ho250⟩ := ix_exF ptC_len Tryz.underlying58 ti50 hv (by omega) hx61
          refine a_op 2 rfl (by kernel_rfl) (fun w_ h_ => ho250 rfl rfl ⟨rfl, rfl⟩) ?_
          refine a_op 3 rfl (by kernel_rfl) (fun w_ h_ => o_fieldAddr (k := o248) (fun _ => by kernel_rfl) rfl ⟨rfl, rfl⟩) ?_
          refine a_op 4 rfl (by kernel_rfl) (fun w_ h_ => o_load1 (v := (.int .i64 x60.1)) Tryz.underlying3 rfl rfl h_ (seg_sub 1 rfl) (CellsAt.field (k := 0) (ds := [(.int .i64 x60.1)]) hc249 rfl) ⟨rfl, rfl⟩) ?_
          refine a_op 5 rfl (by kernel_rfl) (fun w_ h_ => o_fieldAddr (k := 0) (fun _ => by kernel_rfl) e43_6 ⟨rfl, rfl⟩) ?_
          refine a_op 6 rfl (by kernel_rfl) (fun w_ h_ => o_load1 (v := (.int .i64 h3.st)) Tryz.underlying3 rfl rfl h_ (seg_sub 0 rfl) (CellsAt.one rfl) ⟨rfl, rfl⟩) ?_
          have hH251 : Has E { w56 with drawn := w56.drawn + 1 } [[Hp.one b35 (.cells #[(.int .i64 h3.st), (.int .i64 h3.cut)] 50 (0, 0))], R] := ((hH246.front 4 rfl).front 4 rfl).first 2 rfl
          refine a_done (by kernel_rfl) hH251 ?_
          refine r_op 7 rfl (by kernel_rfl) (o_lss (a := x60.1) (b := h3.st) rfl rfl ?_)
          refine r_op 8 rfl (by kernel_rfl) (o_move (v := (.bool (decide (x60.1 < h3.st)))) rfl ?_)
          refine Rest.phaseA (fun w_ => Has E w_ [[Hp.one b35 (.cells #[(.int .i64 h3.st), (.int .i64 h3.cut)] 50 (0, 0))], R]) 9 16 7 rfl (by decide) (by kernel_rfl) ?_
          by_cases h252 : x60.1 < h3.st
          · -- x60.1 < h3.st
            refine a_off (b' := true) 9 rfl (by kernel_rfl) 55 rfl (congrArg Value.bool (decide_eq_true h252)) rfl ?_
            refine a_off (b' := true) 10 rfl (by kernel_rfl) 55 rfl (congrArg Value.bool (decide_eq_true h252)) rfl ?_
            refine a_off (b' := true) 11 rfl (by kernel_rfl) 55 rfl (congrArg Value.bool (decide_eq_true h252)) rfl ?_
            refine a_off (b' := true) 12 rfl (by kernel_rfl) 55 rfl (congrArg Value.bool (decide_eq_true h252)) rfl ?_
            refine a_off (b' := true) 13 rfl (by kernel_rfl) 55 rfl (congrArg Value.bool (decide_eq_true h252)) rfl ?_
            refine a_off (b' := true) 14 rfl (by kernel_rfl) 55 rfl (congrArg Value.bool (decide_eq_true h252)) rfl ?_
            refine a_off (b' := true) 15 rfl (by kernel_rfl) 55 rfl (congrArg Value.bool (decide_eq_true h252)) rfl ?_
            have hH253 : Has E { w56 with drawn := w56.drawn + 1 } [[Hp.one b35 (.cells #[(.int .i64 h3.st), (.int .i64 h3.cut)] 50 (0, 0))], R] := ((hH246.front 4 rfl).front 4 rfl).first 2 rfl
            refine a_done (by kernel_rfl) hH253 ?_
            refine r_off (b' := true) 16 rfl (by kernel_rfl) 55 rfl (congrArg Value.bool (decide_eq_true h252)) rfl ?_
            refine r_op 17 rfl (by kernel_rfl) (o_pick_t (u := (.bool true)) ((rfl : _ = _).trans (congrArg Value.bool (decide_eq_true h252))) rfl ?_)
            refine r_op 18 rfl (by kernel_rfl) (o_move (v := (.bool true)) rfl ?_)
            refine Rest.phaseA (fun w_ => Has E w_ []) 19 21 2 rfl (by decide) (by kernel_rfl) ?_
            refine a_off (b' := true) 19 rfl (by kernel_rfl) 65 rfl rfl rfl ?_
            refine a_off (b' := true) 20 rfl (by kernel_rfl) 65 rfl rfl rfl ?_
            have hH254 : Has E { w56 with drawn := w56.drawn + 1 } [] := hH246.first 0 rfl
            refine a_done (by kernel_rfl) hH254 ?_
            refine r_off (b' := true) 21 rfl (by kernel_rfl) 65 rfl rfl rfl ?_
            refine r_off (b' := true) 22 rfl (by kernel_rfl) 65 rfl rfl rfl ?_
            refine r_off (b' := true) 23 rfl (by kernel_rfl) 65 rfl rfl rfl ?_
            refine r_off (b' := true) 24 rfl (by kernel_rfl) 65 rfl rfl rfl ?_
            refine r_off (b' := true) 25 rfl (by kernel_rfl) 65 rfl rfl rfl ?_
            refine r_op 26 rfl (by kernel_rfl) (o_pick_t (u := (.bool true)) rfl rfl ?_)
            refine r_op 27 rfl (by kernel_rfl) (o_move (v := (.bool true)) rfl ?_)
            refine Rest.phaseA (fun w_ => Has E w_ []) 28 30 2 rfl (by decide) (by kernel_rfl) ?_
            refine a_off (b' := true) 28 rfl (by kernel_rfl) 74 rfl rfl rfl ?_
            refine a_off (b' := true) 29 rfl (by kernel_rfl) 74 rfl rfl rfl ?_
            have hH255 : Has E { w56 with drawn := w56.drawn + 1 } [] := hH246.first 0 rfl
            refine a_done (by kernel_rfl) hH255 ?_
            refine r_off (b' := true) 30 rfl (by kernel_rfl) 74 rfl rfl rfl ?_
            refine r_off (b' := true) 31 rfl (by kernel_rfl) 74 rfl rfl rfl ?_
            refine r_off (b' := true) 32 rfl (by kernel_rfl) 74 rfl rfl rfl ?_
            refine r_off (b' := true) 33 rfl (by kernel_rfl) 74 rfl rfl rfl ?_
            refine r_off (b' := true) 34 rfl (by kernel_rfl) 74 rfl rfl rfl ?_
            refine r_op 35 rfl (by kernel_rfl) (o_pick_t (u := (.bool true)) rfl rfl ?_)
            refine Rest.done (by kernel_rfl) ?_
            refine t_norm (hJ64 _ _ ⟨true, hH246, (by first | (rw [decide_eq_true (by omega)]) | (rw [decide_eq_false (by omega)]) | (rw [Bool.eq_iff_iff]; simp only [Bool.not_eq_true', decide_eq_false_iff_not, decide_eq_true_eq]; omega)), e43_0, e43_3, e43_4, e43_5, e43_6, e43_7, rfl, rfl, e43_18, e43_37, rfl, rfl⟩)
          · -- not: x60.1 < h3.st
            refine a_on 9 rfl (by kernel_rfl) 55 rfl (congrArg Value.bool (decide_eq_false h252)) (fun w_ h_ => o_move (v := v) e43_0 ⟨rfl, rfl⟩) ?_
            refine a_on 10 rfl (by kernel_rfl) 55 rfl (congrArg Value.bool (decide_eq_false h252)) (fun w_ h_ => o_move (v := (.int .i64 (i : Int))) e43_7 ⟨rfl, rfl⟩) ?_
            obtain ⟨b256, o257, hc258, ho259⟩ := ix_exF ptC_len Tryz.underlying58 ti50 hv (by omega) hx61
            refine a_on 11 rfl (by kernel_rfl) 55 rfl (congrArg Value.bool (decide_eq_false h252)) (fun w_ h_ => ho259 rfl rfl ⟨rfl, rfl⟩) ?_
            refine a_on 12 rfl (by kernel_rfl) 55 rfl (congrArg Value.bool (decide_eq_false h252)) (fun w_ h_ => o_fieldAddr (k := o257 + 1) (fun _ => by kernel_rfl) rfl ⟨rfl, rfl⟩) ?_
            refine a_on 13 rfl (by kernel_rfl) 55 rfl (congrArg Value.bool (decide_eq_false h252)) (fun w_ h_ => o_load1 (v := (.int .i64 x60.2)) Tryz.underlying3 rfl rfl h_ (seg_sub 1 rfl) (CellsAt.field (k := 1) (ds := [(.int .i64 x60.2)]) hc258 rfl) ⟨rfl, rfl⟩) ?_
            refine a_on 14 rfl (by kernel_rfl) 55 rfl (congrArg Value.bool (decide_eq_false h252)) (fun w_ h_ => o_fieldAddr (k := 1) (fun _ => by kernel_rfl) e43_6 ⟨rfl, rfl⟩) ?_
            refine a_on 15 rfl (by kernel_rfl) 55 rfl (congrArg Value.bool (decide_eq_false h252)) (fun w_ h_ => o_load1 (v := (.int .i64 h3.cut)) Tryz.underlying3 rfl rfl h_ (seg_sub 0 rfl) (CellsAt.one rfl) ⟨rfl, rfl⟩) ?_
            have hH260 : Has E { w56 with drawn := w56.drawn + 1 } [[Hp.one b35 (.cells #[(.int .i64 h3.st), (.int .i64 h3.cut)] 50 (0, 0))], R] := ((hH246.front 4 rfl).front 4 rfl).first 2 rfl
            refine a_done (by kernel_rfl) hH260 ?_
            refine r_on 16 rfl (by kernel_rfl) 55 rfl (congrArg Value.bool (decide_eq_false h252)) (o_lss (a := x60.2) (b := h3.cut) rfl rfl ?_)
            refine r_op 17 rfl (by kernel_rfl) (o_pick_f (u := (.bool (decide (x60.2 < h3.cut)))) ((rfl : _ = _).trans (congrArg Value.bool (decide_eq_false h252))) rfl ?_)
            refine r_op 18 rfl (by kernel_rfl) (o_move (v := (.bool (decide (x60.2 < h3.cut)))) rfl ?_)
            refine Rest.phaseA (fun w_ => Has E w_ []) 19 21 2 rfl (by decide) (by kernel_rfl) ?_
            by_cases h261 : x60.2 < h3.cut
            · -- x60.2 < h3.cut
              refine a_off (b' := true) 19 rfl (by kernel_rfl) 65 rfl (congrArg Value.bool (decide_eq_true h261)) rfl ?_
              refine a_off (b' := true) 20 rfl (by kernel_rfl) 65 rfl (congrArg Value.bool (decide_eq_true h261)) rfl ?_
              have hH262 : Has E { w56 with drawn := w56.drawn + 1 } [] := hH246.first 0 rfl
              refine a_done (by kernel_rfl) hH262 ?_
              refine r_off (b' := true) 21 rfl (by kernel_rfl) 65 rfl (congrArg Value.bool (decide_eq_true h261)) rfl ?_
              refine r_off (b' := true) 22 rfl (by kernel_rfl) 65 rfl (congrArg Value.bool (decide_eq_true h261)) rfl ?_
              refine r_off (b' := true) 23 rfl (by kernel_rfl) 65 rfl (congrArg Value.bool (decide_eq_true h261)) rfl ?_
              refine r_off (b' := true) 24 rfl (by kernel_rfl) 65 rfl (congrArg Value.bool (decide_eq_true h261)) rfl ?_
              refine r_off (b' := true) 25 rfl (by kernel_rfl) 65 rfl (congrArg Value.bool (decide_eq_true h261)) rfl ?_
              refine r_op 26 rfl (by kernel_rfl) (o_pick_t (u := (.bool true)) ((rfl : _ = _).trans (congrArg Value.bool (decide_eq_true h261))) rfl ?_)
              refine r_op 27 rfl (by kernel_rfl) (o_move (v := (.bool true)) rfl ?_)
              refine Rest.phaseA (fun w_ => Has E w_ []) 28 30 2 rfl (by decide) (by kernel_rfl) ?_
              refine a_off (b' := true) 28 rfl (by kernel_rfl) 74 rfl rfl rfl ?_
              refine a_off (b' := true) 29 rfl (by kernel_rfl) 74 rfl rfl rfl ?_
              have hH263 : Has E { w56 with drawn := w56.drawn + 1 } [] := hH246.first 0 rfl
              refine a_done (by kernel_rfl) hH263 ?_
              refine r_off (b' := true) 30 rfl (by kernel_rfl) 74 rfl rfl rfl ?_
              refine r_off (b' := true) 31 rfl (by kernel_rfl) 74 rfl rfl rfl ?_
              refine r_off (b' := true) 32 rfl (by kernel_rfl) 74 rfl rfl rfl ?_
              refine r_off (b' := true) 33 rfl (by kernel_rfl) 74 rfl rfl rfl ?_
              refine r_off (b' := true) 34 rfl (by kernel_rfl) 74 rfl rfl rfl ?_
              refine r_op 35 rfl (by kernel_rfl) (o_pick_t (u := (.bool true)) rfl rfl ?_)
              refine Rest.done (by kernel_rfl) ?_
              refine t_norm (hJ64 _ _ ⟨true, hH246, (by first | (rw [decide_eq_true (by omega)]) | (rw [decide_eq_false (by omega)]) | (rw [Bool.eq_iff_iff]; simp only [Bool.not_eq_true', decide_eq_false_iff_not, decide_eq_true_eq]; omega)), e43_0, e43_3, e43_4, e43_5, e43_6, e43_7, rfl, rfl, e43_18, e43_37, rfl, rfl⟩)
            · -- not: x60.2 < h3.cut
              refine a_on 19 rfl (by kernel_rfl) 65 rfl (congrArg Value.bool (decide_eq_false h261)) (fun w_ h_ => o_move (v := v) e43_0 ⟨rfl, rfl⟩) ?_
              refine a_on 20 rfl (by kernel_rfl) 65 rfl (congrArg Value.bool (decide_eq_false h261)) (fun w_ h_ => o_move (v := (.int .i64 (i : Int))) e43_7 ⟨rfl, rfl⟩) ?_
              have hH264 : Has E { w56 with drawn := w56.drawn + 1 } [] := hH246.first 0 rfl
              refine a_done (by kernel_rfl) hH264 ?_
              refine r_on 21 rfl (by kernel_rfl) 65 rfl (congrArg Value.bool (decide_eq_false h261)) (o_indexF ptC_len Tryz.underlying58 ti50 rfl hv rfl rfl (by omega) hx61 fun b265 o266 hc267 => ?_)
              refine r_on 22 rfl (by kernel_rfl) 65 rfl (congrArg Value.bool (decide_eq_false h261)) (o_fieldAddr (k := o266) (fun _ => by kernel_rfl) rfl ?_)
              refine r_on 23 rfl (by kernel_rfl) 65 rfl (congrArg Value.bool (decide_eq_false h261)) (o_load1 (v := (.int .i64 x60.1)) Tryz.underlying3 rfl rfl hH246 (seg_sub 4 rfl) (CellsAt.field (k := 0) (ds := [(.int .i64 x60.1)]) hc267 rfl) ?_)
              refine r_on 24 rfl (by kernel_rfl) 65 rfl (congrArg Value.bool (decide_eq_false h261)) (o_callf (vs := #[(.int .i64 x60.1)]) ca28 rfl (args1 rfl) (small19_c (n := x60.1) hH246.all ) ?_)
              rintro _ w270 ⟨rfl, hX268⟩
              refine ⟨_, rfl, ?_⟩
              have hH269 := hX268.of_all
              refine r_on 25 rfl (by kernel_rfl) 65 rfl (congrArg Value.bool (decide_eq_false h261)) (o_not2 (b := decide (0 ≤ x60.1 ∧ x60.1 ≤ 4611686018427387903)) (b' := decide (¬ (0 ≤ x60.1 ∧ x60.1 ≤ 4611686018427387903))) rfl not_dec ?_)
              refine r_op 26 rfl (by kernel_rfl) (o_pick_f (u := (.bool (decide (¬ (0 ≤ x60.1 ∧ x60.1 ≤ 4611686018427387903))))) ((rfl : _ = _).trans (congrArg Value.bool (decide_eq_false h261))) rfl ?_)
              refine r_op 27 rfl (by kernel_rfl) (o_move (v := (.bool (decide (¬ (0 ≤ x60.1 ∧ x60.1 ≤ 4611686018427387903))))) rfl ?_)
              refine Rest.phaseA (fun w_ => Has E w_ []) 28 30 2 rfl (by decide) (by kernel_rfl) ?_
              by_cases h271 : ¬ (0 ≤ x60.1 ∧ x60.1 ≤ 4611686018427387903)
              · -- ¬ (0 ≤ x60.1 ∧ x60.1 ≤ 4611686018427387903)
                refine a_off (b' := true) 28 rfl (by kernel_rfl) 74 rfl (congrArg Value.bool (decide_eq_true h271)) rfl ?_
                refine a_off (b' := true) 29 rfl (by kernel_rfl) 74 rfl (congrArg Value.bool (decide_eq_true h271)) rfl ?_
                have hH272 : Has E w270 [] := hH269.first 0 rfl
                refine a_done (by kernel_rfl) hH272 ?_
                refine r_off (b' := true) 30 rfl (by kernel_rfl) 74 rfl (congrArg Value.bool (decide_eq_true h271)) rfl ?_
                refine r_off (b' := true) 31 rfl (by kernel_rfl) 74 rfl (congrArg Value.bool (decide_eq_true h271)) rfl ?_
                refine r_off (b' := true) 32 rfl (by kernel_rfl) 74 rfl (congrArg Value.bool (decide_eq_true h271)) rfl ?_
                refine r_off (b' := true) 33 rfl (by kernel_rfl) 74 rfl (congrArg Value.bool (decide_eq_true h271)) rfl ?_
                refine r_off (b' := true) 34 rfl (by kernel_rfl) 74 rfl (congrArg Value.bool (decide_eq_true h271)) rfl ?_
                refine r_op 35 rfl (by kernel_rfl) (o_pick_t (u := (.bool true)) ((rfl : _ = _).trans (congrArg Value.bool (decide_eq_true h271))) rfl ?_)
                refine Rest.done (by kernel_rfl) ?_
                refine t_norm (hJ64 _ _ ⟨true, hH269, (by first | (rw [decide_eq_true (by omega)]) | (rw [decide_eq_false (by omega)]) | (rw [Bool.eq_iff_iff]; simp only [Bool.not_eq_true', decide_eq_false_iff_not, decide_eq_true_eq]; omega)), e43_0, e43_3, e43_4, e43_5, e43_6, e43_7, rfl, rfl, e43_18, e43_37, rfl, rfl⟩)
              · -- not: ¬ (0 ≤ x60.1 ∧ x60.1 ≤ 4611686018427387903)
                refine a_on 28 rfl (by kernel_rfl) 74 rfl (congrArg Value.bool (decide_eq_false h271)) (fun w_ h_ => o_move (v := v) e43_0 ⟨rfl, rfl⟩) ?_
                refine a_on 29 rfl (by kernel_rfl) 74 rfl (congrArg Value.bool (decide_eq_false h271)) (fun w_ h_ => o_move (v := (.int .i64 (i : Int))) e43_7 ⟨rfl, rfl⟩) ?_
                have hH273 : Has E w270 [] := hH269.first 0 rfl
                refine a_done (by kernel_rfl) hH273 ?_
                refine r_on 30 rfl (by kernel_rfl) 74 rfl (congrArg Value.bool (decide_eq_false h271)) (o_indexF ptC_len Tryz.underlying58 ti50 rfl hv rfl rfl (by omega) hx61 fun b274 o275 hc276 => ?_)
                refine r_on 31 rfl (by kernel_rfl) 74 rfl (congrArg Value.bool (decide_eq_false h271)) (o_fieldAddr (k := o275 + 1) (fun _ => by kernel_rfl) rfl ?_)
                refine r_on 32 rfl (by kernel_rfl) 74 rfl (congrArg Value.bool (decide_eq_false h271)) (o_load1 (v := (.int .i64 x60.2)) Tryz.underlying3 rfl rfl hH269 (seg_sub 4 rfl) (CellsAt.field (k := 1) (ds := [(.int .i64 x60.2)]) hc276 rfl) ?_)
                refine r_on 33 rfl (by kernel_rfl) 74 rfl (congrArg Value.bool (decide_eq_false h271)) (o_callf (vs := #[(.int .i64 x60.2)]) ca28 rfl (args1 rfl) (small19_c (n := x60.2) hH269.all ) ?_)
                rintro _ w279 ⟨rfl, hX277⟩
                refine ⟨_, rfl, ?_⟩
                have hH278 := hX277.of_all
                refine r_on 34 rfl (by kernel_rfl) 74 rfl (congrArg Value.bool (decide_eq_false h271)) (o_not2 (b := decide (0 ≤ x60.2 ∧ x60.2 ≤ 4611686018427387903)) (b' := decide (¬ (0 ≤ x60.2 ∧ x60.2 ≤ 4611686018427387903))) rfl not_dec ?_)
                refine r_op 35 rfl (by kernel_rfl) (o_pick_f (u := (.bool (decide (¬ (0 ≤ x60.2 ∧ x60.2 ≤ 4611686018427387903))))) ((rfl : _ = _).trans (congrArg Value.bool (decide_eq_false h271))) rfl ?_)
                refine Rest.done (by kernel_rfl) ?_
                refine t_norm (hJ64 _ _ ⟨(decide (¬ (0 ≤ x60.2 ∧ x60.2 ≤ 4611686018427387903))), hH278, (by first | (rw [decide_eq_true (by omega)]) | (rw [decide_eq_false (by omega)]) | (rw [Bool.eq_iff_iff]; simp only [Bool.not_eq_true', decide_eq_false_iff_not, decide_eq_true_eq]; omega)), e43_0, e43_3, e43_4, e43_5, e43_6, e43_7, rfl, rfl, e43_18, e43_37, rfl, rfl⟩)
        · -- not: (i : Int) < ((l.length : Nat) : Int)
          refine wp_exit ?_
          refine t_exit (t_exit (x_in (?_)))
          refine t_norm (hK40 _ _ ?_)
          refine wp_seq_k fun K280 hK280 => ?_
          refine c_region ?_
          refine s_op (o_assign (v := (.bool true)) rfl ?_)
          refine s_nil ?_
          refine t_norm (hK280 _ _ ?_)
          refine wp_ret ?_
          refine c_ret1 Tryz.results7  (v := (.bool true)) rfl ?_
          have hH281 : Has E w46 [R] := (hH47.front 4 rfl).first 1 rfl
          exact ⟨by first | rfl | (rw [decide_eq_true rfl]), hH281⟩
end Go.Q
namespace Go.Q
theorem arr_cells {H : Type} {enc : TypeId × Value → H} {P : Program} {w : World} {base : Nat} {spare : Nat → Bool} {held : Bool} {fuel n : Nat} {t e : TypeId} {k : IntKind} {cs : List Value} {l : List Int} {p : List MemPlace}
    (ht : P.underlying t = some (.array n e)) (he : P.underlying e = some (.int k)) (hc : P.cellsOf e = 1) (hl : l.length = n)
    (h : DataW.trod enc P w base spare held fuel t cs = some (.agg (l.map fun z => (DataW.lit (Lit.int k z) : DataW H)), p)) : ∀ (i : Nat) (z : Int), l[i]? = some z → cs[i]? = some (Value.int k z) := by
  intro i z hz
  obtain ⟨xs, m, _, hx, _, hn, hel⟩ := DataW.trod_array ht h
  simp only [Prod.mk.injEq, DataW.agg.injEq] at hx
  have hi : i < n := by rw [← hl]; exact (List.getElem?_eq_some_iff.1 hz).1
  have h1 := hel i hi
  rw [hc, Nat.mul_one, List.getElem?_eq_getElem (by omega)] at h1
  obtain ⟨r, e1, e2, _⟩ := DataW.trod_int he h1
  have e3 : (xs.map (·.1))[i]? = some (DataW.lit (Lit.int k z)) := by rw [← hx.1, List.getElem?_map, hz]; rfl
  rw [List.getElem?_map, List.getElem?_eq_getElem (by omega), Option.map_some] at e3
  rw [e2] at e3
  have e4 : r = z := by simpa using e3
  subst e4
  have e5 : (List.take 1 (List.drop i cs))[0]? = some (.int k r) := by rw [e1]; rfl
  rw [List.getElem?_take, if_pos (by omega), List.getElem?_drop] at e5
  simpa using e5
theorem rd_u32 {H : Type} {enc : TypeId × Value → H} {P : Program} {w : World} {t : TypeId} {cs : List Value} (ht : P.underlying t = some (.int .u32)) (h : Rd enc P w t cs) : ∃ x : BitVec 32, cs = [.int .u32 (x.toNat : Int)] ∧ True := by
  obtain ⟨n, h1, h2⟩ := rd_int ht h
  have hb : 0 ≤ n ∧ n < 4294967296 := by
    simp [Lit.wf, IntKind.min, IntKind.max, IntKind.signed, IntKind.bits] at h2
    omega
  refine ⟨BitVec.ofNat 32 n.toNat, ?_, trivial⟩
  rw [h1, BitVec.toNat_ofNat, Nat.mod_eq_of_lt (by omega), Int.toNat_of_nonneg hb.1]
end Go.Q
