/-
  Parts of a walk: what functions of the program compute, each told by a theorem (QzEq, QPoint, Qzt1, Qzt2, Qzt4, Qzt7, Qzt3, Qzt3b, Qzt5, Qzt8, Qzt6, QzL8, QYD, QzRd).
-/
import Derived.Test.YtcnfkdodgemeeaaGreatDoorB4
import Derived.OpenShut
set_option linter.unusedVariables false
set_option linter.unusedSimpArgs false
set_option linter.unnecessarySimpa false
namespace Go.Q
open Go.Proofs
set_option linter.unusedVariables false
set_option maxRecDepth 100000
def eqv27 (a0 : Int) (a1 : Int) (a2 : Int) (a3 : Int) (a4 : Int) (b0 : Int) (b1 : Int) (b2 : Int) (b3 : Int) (b4 : Int) : Bool := (decide (a0 = b0) && (decide (a1 = b1) && (decide (a2 = b2) && (decide (a3 = b3) && (decide (a4 = b4) && true)))))
theorem eqT27 (d : Nat) (w : World) (a0 : Int) (a1 : Int) (a2 : Int) (a3 : Int) (a4 : Int) (b0 : Int) (b1 : Int) (b2 : Int) (b3 : Int) (b4 : Int) : (Op.equalIn (d + 2) 27 (.agg #[(.int .i64 a0), (.int .i64 a1), (.int .i64 a2), (.int .i64 a3), (.int .i64 a4)]) (.agg #[(.int .i64 b0), (.int .i64 b1), (.int .i64 b2), (.int .i64 b3), (.int .i64 b4)])).run Tryz.prog w = .ok (eqv27 a0 a1 a2 a3 a4 b0 b1 b2 b3 b4) w := by
  rw [run_equalIn_struct w _ 27 _ _ (by kernel_rfl) (by kernel_rfl)]
  refine eqC_fields (m := [(3, 0, false), (3, 1, false), (3, 2, false), (3, 3, false), (3, 4, false)]) (by kernel_rfl) fun l hl => ?_
  obtain ⟨f0, l0, rfl, h0, hl⟩ := List.map_eq_cons_iff.1 hl
  refine eqC_cons (ft := 3) (fo := 0) (a := (.int .i64 a0)) (b := (.int .i64 b0)) h0 (part1 Tryz.underlying3 rfl (by kernel_rfl) w) (part1 Tryz.underlying3 rfl (by kernel_rfl) w) (eq_int Tryz.underlying3 (d + 0) _ _ _ w) ?_
  obtain ⟨f1, l1, rfl, h1, hl⟩ := List.map_eq_cons_iff.1 hl
  refine eqC_cons (ft := 3) (fo := 1) (a := (.int .i64 a1)) (b := (.int .i64 b1)) h1 (part1 Tryz.underlying3 rfl (by kernel_rfl) w) (part1 Tryz.underlying3 rfl (by kernel_rfl) w) (eq_int Tryz.underlying3 (d + 0) _ _ _ w) ?_
  obtain ⟨f2, l2, rfl, h2, hl⟩ := List.map_eq_cons_iff.1 hl
  refine eqC_cons (ft := 3) (fo := 2) (a := (.int .i64 a2)) (b := (.int .i64 b2)) h2 (part1 Tryz.underlying3 rfl (by kernel_rfl) w) (part1 Tryz.underlying3 rfl (by kernel_rfl) w) (eq_int Tryz.underlying3 (d + 0) _ _ _ w) ?_
  obtain ⟨f3, l3, rfl, h3, hl⟩ := List.map_eq_cons_iff.1 hl
  refine eqC_cons (ft := 3) (fo := 3) (a := (.int .i64 a3)) (b := (.int .i64 b3)) h3 (part1 Tryz.underlying3 rfl (by kernel_rfl) w) (part1 Tryz.underlying3 rfl (by kernel_rfl) w) (eq_int Tryz.underlying3 (d + 0) _ _ _ w) ?_
  obtain ⟨f4, l4, rfl, h4, hl⟩ := List.map_eq_cons_iff.1 hl
  refine eqC_cons (ft := 3) (fo := 4) (a := (.int .i64 a4)) (b := (.int .i64 b4)) h4 (part1 Tryz.underlying3 rfl (by kernel_rfl) w) (part1 Tryz.underlying3 rfl (by kernel_rfl) w) (eq_int Tryz.underlying3 (d + 0) _ _ _ w) ?_
  obtain rfl := List.map_eq_nil_iff.1 hl
  exact eqC_nil
theorem o_eql27 {ρ : Operand → Value} {w : World} {K : Value → World → Prop} {dst : Option Tmp} {T : TypeId} {pos : String} {after : Array Edge} {g : Option (Nat × Bool)} {u : TypeId} {x y : Operand} (a0 : Int) (a1 : Int) (a2 : Int) (a3 : Int) (a4 : Int) (b0 : Int) (b1 : Int) (b2 : Int) (b3 : Int) (b4 : Int) (hx : ρ x = .agg #[(.int .i64 a0), (.int .i64 a1), (.int .i64 a2), (.int .i64 a3), (.int .i64 a4)]) (hy : ρ y = .agg #[(.int .i64 b0), (.int .i64 b1), (.int .i64 b2), (.int .i64 b3), (.int .i64 b4)]) (h : K (.bool ((eqv27 a0 a1 a2 a3 a4 b0 b1 b2 b3 b4))) w) :
    OK Tryz.prog ⟨dst, .binOp .eql 27 x y u, T, pos, after, g⟩ ρ w K :=
  o_eqx hx hy (run_eqGuard_agg w _ _ _ _ _ _ (by kernel_rfl)) rfl (eqT27 (9998) w a0 a1 a2 a3 a4 b0 b1 b2 b3 b4) h
theorem o_neq27 {ρ : Operand → Value} {w : World} {K : Value → World → Prop} {dst : Option Tmp} {T : TypeId} {pos : String} {after : Array Edge} {g : Option (Nat × Bool)} {u : TypeId} {x y : Operand} (a0 : Int) (a1 : Int) (a2 : Int) (a3 : Int) (a4 : Int) (b0 : Int) (b1 : Int) (b2 : Int) (b3 : Int) (b4 : Int) (hx : ρ x = .agg #[(.int .i64 a0), (.int .i64 a1), (.int .i64 a2), (.int .i64 a3), (.int .i64 a4)]) (hy : ρ y = .agg #[(.int .i64 b0), (.int .i64 b1), (.int .i64 b2), (.int .i64 b3), (.int .i64 b4)]) (h : K (.bool (!(eqv27 a0 a1 a2 a3 a4 b0 b1 b2 b3 b4))) w) :
    OK Tryz.prog ⟨dst, .binOp .neq 27 x y u, T, pos, after, g⟩ ρ w K :=
  o_nex hx hy (run_eqGuard_agg w _ _ _ _ _ _ (by kernel_rfl)) rfl (eqT27 (9998) w a0 a1 a2 a3 a4 b0 b1 b2 b3 b4) h
theorem eqv27_iff (a0 : Int) (a1 : Int) (a2 : Int) (a3 : Int) (a4 : Int) (b0 : Int) (b1 : Int) (b2 : Int) (b3 : Int) (b4 : Int) : eqv27 a0 a1 a2 a3 a4 b0 b1 b2 b3 b4 = true ↔ a0 = b0 ∧ a1 = b1 ∧ a2 = b2 ∧ a3 = b3 ∧ a4 = b4 := by
  unfold eqv27; simp
theorem eqv27_dec (a0 : Int) (a1 : Int) (a2 : Int) (a3 : Int) (a4 : Int) (b0 : Int) (b1 : Int) (b2 : Int) (b3 : Int) (b4 : Int) : eqv27 a0 a1 a2 a3 a4 b0 b1 b2 b3 b4 = decide (a0 = b0 ∧ a1 = b1 ∧ a2 = b2 ∧ a3 = b3 ∧ a4 = b4) := by rw [Bool.eq_iff_iff, eqv27_iff, decide_eq_true_iff]
def eqv23 (a0 : Int) (a1 : Int) (a2 : Int) (a3 : Int) (a4 : Int) (b0 : Int) (b1 : Int) (b2 : Int) (b3 : Int) (b4 : Int) : Bool := (decide (a0 = b0) && (decide (a1 = b1) && (decide (a2 = b2) && (decide (a3 = b3) && (decide (a4 = b4) && true)))))
theorem eqT23 (d : Nat) (w : World) (a0 : Int) (a1 : Int) (a2 : Int) (a3 : Int) (a4 : Int) (b0 : Int) (b1 : Int) (b2 : Int) (b3 : Int) (b4 : Int) : (Op.equalIn (d + 2) 23 (.agg #[(.int .i64 a0), (.int .i64 a1), (.int .i64 a2), (.int .i64 a3), (.int .i64 a4)]) (.agg #[(.int .i64 b0), (.int .i64 b1), (.int .i64 b2), (.int .i64 b3), (.int .i64 b4)])).run Tryz.prog w = .ok (eqv23 a0 a1 a2 a3 a4 b0 b1 b2 b3 b4) w := by
  rw [run_equalIn_struct w _ 23 _ _ (by kernel_rfl) (by kernel_rfl)]
  refine eqC_fields (m := [(3, 0, false), (3, 1, false), (3, 2, false), (3, 3, false), (3, 4, false)]) (by kernel_rfl) fun l hl => ?_
  obtain ⟨f0, l0, rfl, h0, hl⟩ := List.map_eq_cons_iff.1 hl
  refine eqC_cons (ft := 3) (fo := 0) (a := (.int .i64 a0)) (b := (.int .i64 b0)) h0 (part1 Tryz.underlying3 rfl (by kernel_rfl) w) (part1 Tryz.underlying3 rfl (by kernel_rfl) w) (eq_int Tryz.underlying3 (d + 0) _ _ _ w) ?_
  obtain ⟨f1, l1, rfl, h1, hl⟩ := List.map_eq_cons_iff.1 hl
  refine eqC_cons (ft := 3) (fo := 1) (a := (.int .i64 a1)) (b := (.int .i64 b1)) h1 (part1 Tryz.underlying3 rfl (by kernel_rfl) w) (part1 Tryz.underlying3 rfl (by kernel_rfl) w) (eq_int Tryz.underlying3 (d + 0) _ _ _ w) ?_
  obtain ⟨f2, l2, rfl, h2, hl⟩ := List.map_eq_cons_iff.1 hl
  refine eqC_cons (ft := 3) (fo := 2) (a := (.int .i64 a2)) (b := (.int .i64 b2)) h2 (part1 Tryz.underlying3 rfl (by kernel_rfl) w) (part1 Tryz.underlying3 rfl (by kernel_rfl) w) (eq_int Tryz.underlying3 (d + 0) _ _ _ w) ?_
  obtain ⟨f3, l3, rfl, h3, hl⟩ := List.map_eq_cons_iff.1 hl
  refine eqC_cons (ft := 3) (fo := 3) (a := (.int .i64 a3)) (b := (.int .i64 b3)) h3 (part1 Tryz.underlying3 rfl (by kernel_rfl) w) (part1 Tryz.underlying3 rfl (by kernel_rfl) w) (eq_int Tryz.underlying3 (d + 0) _ _ _ w) ?_
  obtain ⟨f4, l4, rfl, h4, hl⟩ := List.map_eq_cons_iff.1 hl
  refine eqC_cons (ft := 3) (fo := 4) (a := (.int .i64 a4)) (b := (.int .i64 b4)) h4 (part1 Tryz.underlying3 rfl (by kernel_rfl) w) (part1 Tryz.underlying3 rfl (by kernel_rfl) w) (eq_int Tryz.underlying3 (d + 0) _ _ _ w) ?_
  obtain rfl := List.map_eq_nil_iff.1 hl
  exact eqC_nil
theorem o_eql23 {ρ : Operand → Value} {w : World} {K : Value → World → Prop} {dst : Option Tmp} {T : TypeId} {pos : String} {after : Array Edge} {g : Option (Nat × Bool)} {u : TypeId} {x y : Operand} (a0 : Int) (a1 : Int) (a2 : Int) (a3 : Int) (a4 : Int) (b0 : Int) (b1 : Int) (b2 : Int) (b3 : Int) (b4 : Int) (hx : ρ x = .agg #[(.int .i64 a0), (.int .i64 a1), (.int .i64 a2), (.int .i64 a3), (.int .i64 a4)]) (hy : ρ y = .agg #[(.int .i64 b0), (.int .i64 b1), (.int .i64 b2), (.int .i64 b3), (.int .i64 b4)]) (h : K (.bool ((eqv23 a0 a1 a2 a3 a4 b0 b1 b2 b3 b4))) w) :
    OK Tryz.prog ⟨dst, .binOp .eql 23 x y u, T, pos, after, g⟩ ρ w K :=
  o_eqx hx hy (run_eqGuard_agg w _ _ _ _ _ _ (by kernel_rfl)) rfl (eqT23 (9998) w a0 a1 a2 a3 a4 b0 b1 b2 b3 b4) h
theorem o_neq23 {ρ : Operand → Value} {w : World} {K : Value → World → Prop} {dst : Option Tmp} {T : TypeId} {pos : String} {after : Array Edge} {g : Option (Nat × Bool)} {u : TypeId} {x y : Operand} (a0 : Int) (a1 : Int) (a2 : Int) (a3 : Int) (a4 : Int) (b0 : Int) (b1 : Int) (b2 : Int) (b3 : Int) (b4 : Int) (hx : ρ x = .agg #[(.int .i64 a0), (.int .i64 a1), (.int .i64 a2), (.int .i64 a3), (.int .i64 a4)]) (hy : ρ y = .agg #[(.int .i64 b0), (.int .i64 b1), (.int .i64 b2), (.int .i64 b3), (.int .i64 b4)]) (h : K (.bool (!(eqv23 a0 a1 a2 a3 a4 b0 b1 b2 b3 b4))) w) :
    OK Tryz.prog ⟨dst, .binOp .neq 23 x y u, T, pos, after, g⟩ ρ w K :=
  o_nex hx hy (run_eqGuard_agg w _ _ _ _ _ _ (by kernel_rfl)) rfl (eqT23 (9998) w a0 a1 a2 a3 a4 b0 b1 b2 b3 b4) h
theorem eqv23_iff (a0 : Int) (a1 : Int) (a2 : Int) (a3 : Int) (a4 : Int) (b0 : Int) (b1 : Int) (b2 : Int) (b3 : Int) (b4 : Int) : eqv23 a0 a1 a2 a3 a4 b0 b1 b2 b3 b4 = true ↔ a0 = b0 ∧ a1 = b1 ∧ a2 = b2 ∧ a3 = b3 ∧ a4 = b4 := by
  unfold eqv23; simp
theorem eqv23_dec (a0 : Int) (a1 : Int) (a2 : Int) (a3 : Int) (a4 : Int) (b0 : Int) (b1 : Int) (b2 : Int) (b3 : Int) (b4 : Int) : eqv23 a0 a1 a2 a3 a4 b0 b1 b2 b3 b4 = decide (a0 = b0 ∧ a1 = b1 ∧ a2 = b2 ∧ a3 = b3 ∧ a4 = b4) := by rw [Bool.eq_iff_iff, eqv23_iff, decide_eq_true_iff]
def eqv50 (a0 : Int) (a1 : Int) (b0 : Int) (b1 : Int) : Bool := (decide (a0 = b0) && (decide (a1 = b1) && true))
theorem eqT50 (d : Nat) (w : World) (a0 : Int) (a1 : Int) (b0 : Int) (b1 : Int) : (Op.equalIn (d + 2) 50 (.agg #[(.int .i64 a0), (.int .i64 a1)]) (.agg #[(.int .i64 b0), (.int .i64 b1)])).run Tryz.prog w = .ok (eqv50 a0 a1 b0 b1) w := by
  rw [run_equalIn_struct w _ 50 _ _ (by kernel_rfl) (by kernel_rfl)]
  refine eqC_fields (m := [(3, 0, false), (3, 1, false)]) (by kernel_rfl) fun l hl => ?_
  obtain ⟨f0, l0, rfl, h0, hl⟩ := List.map_eq_cons_iff.1 hl
  refine eqC_cons (ft := 3) (fo := 0) (a := (.int .i64 a0)) (b := (.int .i64 b0)) h0 (part1 Tryz.underlying3 rfl (by kernel_rfl) w) (part1 Tryz.underlying3 rfl (by kernel_rfl) w) (eq_int Tryz.underlying3 (d + 0) _ _ _ w) ?_
  obtain ⟨f1, l1, rfl, h1, hl⟩ := List.map_eq_cons_iff.1 hl
  refine eqC_cons (ft := 3) (fo := 1) (a := (.int .i64 a1)) (b := (.int .i64 b1)) h1 (part1 Tryz.underlying3 rfl (by kernel_rfl) w) (part1 Tryz.underlying3 rfl (by kernel_rfl) w) (eq_int Tryz.underlying3 (d + 0) _ _ _ w) ?_
  obtain rfl := List.map_eq_nil_iff.1 hl
  exact eqC_nil
theorem o_eql50 {ρ : Operand → Value} {w : World} {K : Value → World → Prop} {dst : Option Tmp} {T : TypeId} {pos : String} {after : Array Edge} {g : Option (Nat × Bool)} {u : TypeId} {x y : Operand} (a0 : Int) (a1 : Int) (b0 : Int) (b1 : Int) (hx : ρ x = .agg #[(.int .i64 a0), (.int .i64 a1)]) (hy : ρ y = .agg #[(.int .i64 b0), (.int .i64 b1)]) (h : K (.bool ((eqv50 a0 a1 b0 b1))) w) :
    OK Tryz.prog ⟨dst, .binOp .eql 50 x y u, T, pos, after, g⟩ ρ w K :=
  o_eqx hx hy (run_eqGuard_agg w _ _ _ _ _ _ (by kernel_rfl)) rfl (eqT50 (9998) w a0 a1 b0 b1) h
theorem o_neq50 {ρ : Operand → Value} {w : World} {K : Value → World → Prop} {dst : Option Tmp} {T : TypeId} {pos : String} {after : Array Edge} {g : Option (Nat × Bool)} {u : TypeId} {x y : Operand} (a0 : Int) (a1 : Int) (b0 : Int) (b1 : Int) (hx : ρ x = .agg #[(.int .i64 a0), (.int .i64 a1)]) (hy : ρ y = .agg #[(.int .i64 b0), (.int .i64 b1)]) (h : K (.bool (!(eqv50 a0 a1 b0 b1))) w) :
    OK Tryz.prog ⟨dst, .binOp .neq 50 x y u, T, pos, after, g⟩ ρ w K :=
  o_nex hx hy (run_eqGuard_agg w _ _ _ _ _ _ (by kernel_rfl)) rfl (eqT50 (9998) w a0 a1 b0 b1) h
theorem eqv50_iff (a0 : Int) (a1 : Int) (b0 : Int) (b1 : Int) : eqv50 a0 a1 b0 b1 = true ↔ a0 = b0 ∧ a1 = b1 := by
  unfold eqv50; simp
theorem eqv50_dec (a0 : Int) (a1 : Int) (b0 : Int) (b1 : Int) : eqv50 a0 a1 b0 b1 = decide (a0 = b0 ∧ a1 = b1) := by rw [Bool.eq_iff_iff, eqv50_iff, decide_eq_true_iff]
end Go.Q
namespace Go.Q
def ptC (a : Int × Int) : List Value := [iV a.1, iV a.2]
theorem ptC_len (a : Int × Int) : (ptC a).length = 2 := rfl
/-- the head that keeps a point -/
def hdK (h : Hd) (pl pn : Int) : Hd := ⟨h.seq, 0, pn, pl, 0⟩
def lowS (n : Int) (l : List Int) : Int := l.foldl (fun n x => if 0 ≤ x then min n x else n) n
theorem lowS_snoc {n y : Int} {l : List Int} {k : Nat} {x : Int} (h : l[k]? = some x) (hy : y = lowS n (l.take k)) : lowS n (l.take (k + 1)) = if 0 ≤ x then min y x else y := by
  unfold lowS at *
  rw [take_succ_of h, List.foldl_append, ← hy]
  rfl
theorem lowS_le (l : List Int) : ∀ n : Int, lowS n l ≤ n := by
  induction l with
  | nil => intro n; exact Int.le_refl _
  | cons x t ih =>
    intro n
    show lowS (if 0 ≤ x then min n x else n) t ≤ n
    refine Int.le_trans (ih _) ?_
    split <;> omega
theorem lowS_mem (l : List Int) : ∀ n : Int, ∀ x ∈ l, 0 ≤ x → lowS n l ≤ x := by
  induction l with
  | nil => intro n x hx; cases hx
  | cons y t ih =>
    intro n x hx h0
    show lowS (if 0 ≤ y then min n y else n) t ≤ x
    rcases List.mem_cons.1 hx with rfl | hx
    · rw [if_pos h0]; exact Int.le_trans (lowS_le t _) (by omega)
    · exact ih _ x hx h0
theorem lowS_is (l : List Int) : ∀ n : Int, 0 ≤ n → (lowS n l = n ∨ lowS n l ∈ l) ∧ 0 ≤ lowS n l := by
  induction l with
  | nil => intro n h; exact ⟨.inl rfl, h⟩
  | cons y t ih =>
    intro n h
    have e : lowS n (y :: t) = lowS (if 0 ≤ y then min n y else n) t := rfl
    rw [e]
    by_cases g : 0 ≤ y
    · rw [if_pos g]
      obtain ⟨h1, h2⟩ := ih (min n y) (by omega)
      refine ⟨?_, h2⟩
      rcases h1 with h1 | h1
      · by_cases q : n ≤ y
        · exact .inl (by rw [h1]; omega)
        · exact .inr (by rw [h1, show min n y = y by omega]; exact List.mem_cons_self)
      · exact .inr (List.mem_cons_of_mem _ h1)
    · rw [if_neg g]
      obtain ⟨h1, h2⟩ := ih n h
      exact ⟨h1.imp id (List.mem_cons_of_mem _), h2⟩
/-- a point's head may be saved -/
theorem pt_try {k : Nat} {pl pn : Int} {h : Hd} (hk : 2 ≤ k) (h1 : 0 ≤ h.seq ∧ h.seq < 4611686018427387903) (hl : 0 ≤ pl ∧ pl ≤ 4611686018427387903) (hn : 0 ≤ pn ∧ pn ≤ 4611686018427387903) : svTry k 0 (hdK h pl pn) :=
  ⟨⟨h1, decide_eq_true ⟨⟨h1.1, by show h.seq ≤ _; omega⟩, ⟨by show (0 : Int) ≤ 0; decide, by show (0 : Int) ≤ _; decide⟩, hn, hl, ⟨by show (0 : Int) ≤ 0; decide, by show (0 : Int) ≤ _; decide⟩⟩⟩, by decide, by omega⟩
theorem pt_bad {k : Nat} {pl pn : Int} {h : Hd} (g : ¬ (0 ≤ pl ∧ pl ≤ 4611686018427387903) ∨ ¬ (0 ≤ pn ∧ pn ≤ 4611686018427387903)) : ¬ svTry k 0 (hdK h pl pn) := by
  intro q
  obtain ⟨b1, b2, b3, b4, b5⟩ := of_decide_eq_true q.1.2
  exact g.elim (fun k => k b4) (fun k => k b3)
theorem sumS_one {n : Int} (h : 0 ≤ n ∧ n ≤ 1152921504606846976) : sumS 0 [n, 1] = n + 1 := by
  rw [sumS, if_neg (by omega), sumS, if_neg (by omega), sumS]
  omega
theorem kp_first {k : Nat} {h : Hd} (hT : svTry k 0 h) : KpA ((List.replicate k blankS).set (svN 0 h).toNat (hdL (hdUp h))) 0 (hdUp h) := by
  have hn : inS (svN 0 h) (List.replicate k blankS).length := by rw [List.length_replicate]; exact svN_in hT
  have hk : (0 : Int) < (k : Int) - 1 := hT.2.2
  unfold KpA
  rw [sec_set hn (by decide), sec_set hn (by decide), sec_rep (by show 0 < k; omega), sec_rep (by show 1 < k; omega)]
  refine ⟨hT.1.up, ?_⟩
  have e : svN 0 h = (h.seq + 1) % 2 := by unfold svN; omega
  by_cases he : (h.seq + 1) % 2 = 0
  · rw [if_pos (show (hdUp h).seq % 2 = 0 from he), if_pos (by rw [e, he]), if_neg (by rw [e, he]; decide)]
    refine ⟨rfl, fun g => ?_⟩
    rw [hdP_blank] at g
    cases g
  · have he : (h.seq + 1) % 2 = 1 := by omega
    rw [if_neg (by show ¬ (h.seq + 1) % 2 = 0; omega), if_pos (by rw [e, he]; decide), if_neg (by rw [e, he]; decide)]
    refine ⟨rfl, fun g => ?_⟩
    rw [hdP_blank] at g
    cases g
theorem ld_blank {p : Pw} {k : Nat} (hk : 2 ≤ k) (hp : p.off = false) : ldE p (List.replicate k blankS) 0 = 7 := by
  have ha : atOk (List.replicate k blankS).length 0 := by rw [List.length_replicate]; exact ⟨by decide, by omega⟩
  unfold ldE
  rw [if_pos ha, if_pos hp, sec_rep (by show 0 < k; omega), sec_rep (by show 1 < k; omega)]
  unfold ldP
  rw [hdP_blank]
  decide +kernel
theorem low_step {l : List Int} {i : Nat} {x n m : Int} {bb b2 : Bool} (h : bb = decide (m = n + 1 ∨ m ∈ l.take i)) (hx : l[i]? = some x) (e : b2 = (bb || decide (x = m))) : b2 = decide (m = n + 1 ∨ m ∈ l.take (i + 1)) := by
  rw [e, h, take_succ_of hx, Bool.eq_iff_iff]
  simp only [Bool.or_eq_true, decide_eq_true_eq, List.mem_append, List.mem_singleton]
  constructor
  · rintro ((h | h) | h)
    · exact .inl h
    · exact .inr (.inl h)
    · exact .inr (.inr h.symm)
  · rintro (h | h | h)
    · exact .inl (.inl h)
    · exact .inl (.inr h)
    · exact .inr h.symm
end Go.Q
namespace Go.Q
open Go.Proofs
set_option linter.unusedVariables false
set_option maxRecDepth 100000
attribute [local irreducible] wpList OK Code.wp
set_option maxHeartbeats 4000000 in
theorem low_c {E w : World} {R : List Hp} (hH : Has E w [R]) (n : Int) {v : Value} {l : List Int} (hv : Ints R v l) :
    Calls Tryz.prog 21 #[(.int .i64 n), v] w fun e w' => e = .returned (.int .i64 (lowS (sumS 0 [n, 1]) l)) ∧ Has E w' [R] := by
  have hn_ := hv.le
  refine c_enter (args := [(.int .i64 n), v]) Tryz.func21 rfl Tryz.ntmps21 (by simp) ?_
  refine wp_seq_k fun K1 hK1 => ?_
  refine c_region ?_
  refine s_op (o_assign (v := (.int .i64 0)) rfl ?_)
  refine s_nil ?_
  refine t_norm (hK1 _ _ ?_)
  refine wp_seq_k fun K2 hK2 => ?_
  refine c_region ?_
  refine s_op (o_move (v := (.int .i64 n)) rfl ?_)
  refine s_op (o_buildSlice (ps := #[(0, (.int .i64 n)), (1, (.int .i64 1))]) (cells := #[(.int .i64 n), (.int .i64 1)]) Tryz.underlying46 ti3 (by decide) (parts2 rfl rfl) (by kernel_rfl) hH fun b3 w4 hH5 => ?_)
  refine s_op (o_callf (vs := #[(.slice (some ⟨b3, 0, none⟩) 2 2)]) ca47 rfl (args1 rfl) (sum_c hH5.all (l := [n, 1]) ((sl_lit (f := iV) (l := [n, 1]) rfl rfl (by simp)).mono (seg_sub 0 rfl))) ?_)
  rintro _ w8 ⟨rfl, hX6⟩
  refine ⟨_, rfl, ?_⟩
  have hH7 := hX6.of_all
  refine s_op (o_assign (v := (.int .i64 (sumS 0 [n, 1]))) rfl ?_)
  refine s_nil ?_
  refine t_norm (hK2 _ _ ?_)
  refine wp_seq_k fun K9 hK9 => ?_
  refine wp_seq_k fun K10 hK10 => ?_
  refine c_region ?_
  refine s_op (o_move (v := v) rfl ?_)
  refine s_op (o_lenS Tryz.underlying46 rfl hv ?_)
  refine s_op (o_move (v := (.int .i64 0)) rfl ?_)
  refine s_nil ?_
  refine t_norm (hK10 _ _ ?_)
  refine wp_block ?_
  let I12 : Nat → (Nat → Value) → World → Prop := fun n__ r__ w__ => ∃ (k : Nat) (y : Int), n__ = l.length - k ∧ Has E w__ [[Hp.one b3 (.cells #[(.int .i64 n), (.int .i64 1)] 3 (0, 0))], R] ∧ (k ≤ l.length) ∧ (y = lowS (sumS 0 [n, 1]) (l.take k)) ∧ r__ 0 = (.int .i64 n) ∧ r__ 1 = v ∧ r__ 4 = (.int .i64 0) ∧ r__ 5 = (.int .i64 y) ∧ r__ 11 = v ∧ r__ 12 = (.int .i64 ((l.length : Nat) : Int)) ∧ r__ 13 = (.int .i64 (k : Int))
  refine c_loop I12 _ ⟨0, (sumS 0 [n, 1]), rfl, hH7, Nat.zero_le _, rfl, rfl, rfl, rfl, rfl, rfl, rfl, rfl⟩ ?_
  rintro n_ r15 w13 ⟨k, y, rfl, hH14, hk, hy, e11_0, e11_1, e11_4, e11_5, e11_11, e11_12, e11_13⟩
  refine wp_seq_k fun K16 hK16 => ?_
  refine c_region ?_
  refine s_op (o_lss (a := (k : Int)) (b := ((l.length : Nat) : Int)) e11_13 e11_12 ?_)
  refine s_nil ?_
  refine t_norm (hK16 _ _ ?_)
  refine wp_seq_k fun K17 hK17 => ?_
  refine c_cond rfl (fun h18 => ?_) (fun h18 => ?_)
  · -- (k : Int) < ((l.length : Nat) : Int)
    refine wp_skip ?_
    refine t_norm (hK17 _ _ ?_)
    refine wp_seq_k fun K19 hK19 => ?_
    refine wp_block ?_
    refine wp_seq_k fun K20 hK20 => ?_
    refine c_region ?_
    obtain ⟨x24, hx25⟩ : ∃ x_, l[((k : Int)).toNat]? = some x_ := get_some (by omega)
    refine s_op (o_index1 Tryz.underlying46 ti3 e11_11 hv e11_13 (by omega) hx25 fun b21 o22 hc23 => ?_)
    refine s_op (o_load1 (v := (.int .i64 x24)) Tryz.underlying3 rfl rfl hH14 (seg_sub 1 rfl) hc23 ?_)
    refine s_op (o_assign (v := (.int .i64 x24)) rfl ?_)
    refine s_nil ?_
    refine t_norm (hK20 _ _ ?_)
    refine wp_seq_k fun K26 hK26 => ?_
    refine c_region ?_
    refine s_op (o_move (v := (.int .i64 x24)) rfl ?_)
    refine s_op (o_geq (a := x24) (b := 0) rfl rfl ?_)
    refine s_nil ?_
    refine t_norm (hK26 _ _ ?_)
    refine c_cond rfl (fun h27 => ?_) (fun h27 => ?_)
    · -- 0 ≤ x24
      refine c_region ?_
      refine s_op (o_move (v := (.int .i64 y)) e11_5 ?_)
      refine s_op (o_move (v := (.int .i64 x24)) rfl ?_)
      refine s_op (o_min (a := y) (b := x24) rfl rfl ?_)
      refine s_op (o_assign (v := (.int .i64 (min y x24))) rfl ?_)
      refine s_nil ?_
      refine b_norm ?_
      refine t_norm (hK19 _ _ ?_)
      refine c_region ?_
      refine s_op (o_add (a := (k : Int)) (b := 1) e11_13 rfl (w64 (by omega) (by omega)) ?_)
      refine s_op (o_move (v := (.int .i64 ((k : Int) + 1))) rfl ?_)
      refine s_nil ?_
      refine t_norm ⟨l.length - (k + 1), _, rfl, ?_, ?_⟩
      · omega
      · exact ⟨(k + 1), (min y x24), rfl, hH14, (by omega), (by rw [lowS_snoc (show l[k]? = some _ from hx25) hy, if_pos (by omega)]), e11_0, e11_1, e11_4, rfl, e11_11, e11_12, rfl⟩
    · -- not: 0 ≤ x24
      refine wp_skip ?_
      refine b_norm ?_
      refine t_norm (hK19 _ _ ?_)
      refine c_region ?_
      refine s_op (o_add (a := (k : Int)) (b := 1) e11_13 rfl (w64 (by omega) (by omega)) ?_)
      refine s_op (o_move (v := (.int .i64 ((k : Int) + 1))) rfl ?_)
      refine s_nil ?_
      refine t_norm ⟨l.length - (k + 1), _, rfl, ?_, ?_⟩
      · omega
      · exact ⟨(k + 1), y, rfl, hH14, (by omega), (by rw [lowS_snoc (show l[k]? = some _ from hx25) hy, if_neg (by omega)]), e11_0, e11_1, e11_4, e11_5, e11_11, e11_12, rfl⟩
  · -- not: (k : Int) < ((l.length : Nat) : Int)
    refine wp_exit ?_
    refine t_exit (t_exit (x_in (?_)))
    refine t_norm (hK9 _ _ ?_)
    refine wp_seq_k fun K28 hK28 => ?_
    refine c_region ?_
    refine s_op (o_move (v := (.int .i64 y)) e11_5 ?_)
    refine s_op (o_assign (v := (.int .i64 y)) rfl ?_)
    refine s_nil ?_
    refine t_norm (hK28 _ _ ?_)
    refine wp_ret ?_
    refine c_ret1 Tryz.results21  (v := (.int .i64 y)) rfl ?_
    have hH29 : Has E w13 [R] := (hH14.front 1 rfl).first 1 rfl
    have e_ : k = l.length := by omega
    rw [e_, List.take_length] at hy
    exact ⟨by rw [hy], hH29⟩
set_option maxHeartbeats 4000000 in
theorem pat_c {E w : World} {R : List Hp} (hH : Has E w [R]) (db : Nat) (h : Hd) :
    Calls Tryz.prog 48 #[(.pointer (some ⟨db, 0, none⟩)), (.agg #[(.int .i64 h.seq), (.int .i64 h.ep), (.int .i64 h.cut), (.int .i64 h.st), (.int .i64 h.mrk)])] w fun e w' => ∃ mb, e = .returned (.pointer (some ⟨mb, 0, none⟩)) ∧ Has E w' [[Hp.one mb (.cells #[(.int .i64 h.st), (.int .i64 h.cut), (.int .i64 h.seq), (.int .i64 h.ep), (.int .i64 h.cut), (.int .i64 h.st), (.int .i64 h.mrk), (.pointer (some ⟨db, 0, none⟩))] 95 (0, 0))], R] := by
  refine c_enter (args := [(.pointer (some ⟨db, 0, none⟩)), (.agg #[(.int .i64 h.seq), (.int .i64 h.ep), (.int .i64 h.cut), (.int .i64 h.st), (.int .i64 h.mrk)])]) Tryz.func48 rfl Tryz.ntmps48 (by simp) ?_
  refine wp_seq_k fun K1 hK1 => ?_
  refine c_region ?_
  refine s_op (o_box (cs := #[(.int .i64 h.seq), (.int .i64 h.ep), (.int .i64 h.cut), (.int .i64 h.st), (.int .i64 h.mrk)]) rfl rfl hH fun b2 w3 hH4 => ?_)
  refine s_op (o_assign (v := (.pointer none)) rfl ?_)
  refine s_nil ?_
  refine t_norm (hK1 _ _ ?_)
  refine wp_seq_k fun K5 hK5 => ?_
  refine c_region ?_
  refine s_op (o_fieldAddr (k := 3) (fun _ => by kernel_rfl) rfl ?_)
  refine s_op (o_load1 (v := (.int .i64 h.st)) Tryz.underlying3 rfl rfl hH4 (seg_sub 0 rfl) (CellsAt.one rfl) ?_)
  refine s_op (o_fieldAddr (k := 2) (fun _ => by kernel_rfl) rfl ?_)
  refine s_op (o_load1 (v := (.int .i64 h.cut)) Tryz.underlying3 rfl rfl hH4 (seg_sub 0 rfl) (CellsAt.one rfl) ?_)
  refine s_op (o_sight (v := (.agg #[(.int .i64 h.st), (.int .i64 h.cut)])) (fun _ => by kernel_rfl) ?_)
  refine s_op (o_loadN (cs := [(.int .i64 h.seq), (.int .i64 h.ep), (.int .i64 h.cut), (.int .i64 h.st), (.int .i64 h.mrk)]) Tryz.underlying27 rfl ti27 rfl hH4 (seg_sub 0 rfl) (CellsAt.one rfl) ?_)
  refine s_op (o_sight (v := (.agg #[(.int .i64 h.st), (.int .i64 h.cut), (.int .i64 h.seq), (.int .i64 h.ep), (.int .i64 h.cut), (.int .i64 h.st), (.int .i64 h.mrk)])) (fun _ => by kernel_rfl) ?_)
  refine s_op (o_move (v := (.pointer (some ⟨db, 0, none⟩))) rfl ?_)
  refine s_op (o_sight (v := (.agg #[(.int .i64 h.st), (.int .i64 h.cut), (.int .i64 h.seq), (.int .i64 h.ep), (.int .i64 h.cut), (.int .i64 h.st), (.int .i64 h.mrk), (.pointer (some ⟨db, 0, none⟩))])) (fun _ => by kernel_rfl) ?_)
  refine s_op (o_box (cs := #[(.int .i64 h.st), (.int .i64 h.cut), (.int .i64 h.seq), (.int .i64 h.ep), (.int .i64 h.cut), (.int .i64 h.st), (.int .i64 h.mrk), (.pointer (some ⟨db, 0, none⟩))]) rfl rfl hH4 fun b6 w7 hH8 => ?_)
  refine s_op (o_assign (v := (.pointer (some ⟨b6, 0, none⟩))) rfl ?_)
  refine s_nil ?_
  refine t_norm (hK5 _ _ ?_)
  refine wp_ret ?_
  refine c_ret1 Tryz.results48  (v := (.pointer (some ⟨b6, 0, none⟩))) rfl ?_
  have hH9 : Has E w7 [[Hp.one b6 (.cells #[(.int .i64 h.st), (.int .i64 h.cut), (.int .i64 h.seq), (.int .i64 h.ep), (.int .i64 h.cut), (.int .i64 h.st), (.int .i64 h.mrk), (.pointer (some ⟨db, 0, none⟩))] 95 (0, 0))], R] := ((hH8.front 2 rfl).front 1 rfl).first 2 rfl
  exact ⟨_, rfl, hH9⟩
set_option maxHeartbeats 4000000 in
theorem mpoint_c {E w : World} {R : List Hp} (hH : Has E w [R]) {mb db : Nat} {h : Hd} (hc : CellsAt R mb 0 [(.int .i64 h.st), (.int .i64 h.cut), (.int .i64 h.seq), (.int .i64 h.ep), (.int .i64 h.cut), (.int .i64 h.st), (.int .i64 h.mrk), (.pointer (some ⟨db, 0, none⟩))]) :
    Calls Tryz.prog 25 #[(.pointer (some ⟨mb, 0, none⟩))] w fun e w' => e = .returned (.agg #[.int .i64 h.st, .int .i64 h.cut]) ∧ Has E w' [R] := by
  refine c_enter (args := [(.pointer (some ⟨mb, 0, none⟩))]) Tryz.func25 rfl Tryz.ntmps25 (by simp) ?_
  refine wp_seq_k fun K1 hK1 => ?_
  refine c_region ?_
  refine s_op (o_alloc (cs := #[(.int .i64 0), (.int .i64 0)]) ti50 rfl hH fun b2 w3 hH4 => ?_)
  refine s_nil ?_
  refine t_norm (hK1 _ _ ?_)
  refine wp_seq_k fun K5 hK5 => ?_
  refine wp_seq_k fun K6 hK6 => ?_
  refine c_region ?_
  refine s_op (o_move (v := (.pointer (some ⟨mb, 0, none⟩))) rfl ?_)
  refine s_op (o_pnil (p := some _) Tryz.underlying51 rfl rfl ?_)
  refine s_nil ?_
  refine t_norm (hK6 _ _ ?_)
  refine c_false rfl rfl ?_
  refine wp_skip ?_
  refine t_norm (hK5 _ _ ?_)
  refine wp_seq_k fun K7 hK7 => ?_
  refine c_region ?_
  refine s_op (o_move (v := (.pointer (some ⟨mb, 0, none⟩))) rfl ?_)
  refine s_op (o_nilCheck rfl ?_)
  refine s_op (o_fieldAddr (k := 0) (fun _ => by kernel_rfl) rfl ?_)
  refine s_op (o_fieldAddr (k := 0) (fun _ => by kernel_rfl) rfl ?_)
  refine s_op (o_loadN (cs := [(.int .i64 h.st), (.int .i64 h.cut)]) Tryz.underlying50 rfl ti50 rfl hH4 (seg_sub 1 rfl) (CellsAt.field (k := 0) (ds := [(.int .i64 h.st), (.int .i64 h.cut)]) (CellsAt.field (k := 0) (ds := [(.int .i64 h.st), (.int .i64 h.cut), (.int .i64 h.seq), (.int .i64 h.ep), (.int .i64 h.cut), (.int .i64 h.st), (.int .i64 h.mrk)]) hc rfl) rfl) ?_)
  refine s_eff (o_storeN (vs := [(.int .i64 h.st), (.int .i64 h.cut)]) (c' := #[(.int .i64 h.st), (.int .i64 h.cut)]) ti50 rfl rfl rfl rfl (by intro u hu; simp only [List.mem_cons, List.not_mem_nil, or_false] at hu; rcases hu with rfl | rfl <;> first | rfl) (by simp) (by kernel_rfl) (hH4.front 0 rfl) fun w8 hH9 => ?_)
  refine s_nil ?_
  refine t_norm (hK7 _ _ ?_)
  refine wp_ret ?_
  refine c_retC1 Tryz.results25 rfl (run_loadVarN (cs := [(.int .i64 h.st), (.int .i64 h.cut)]) Tryz.underlying50 rfl ti50 hH9 (seg_sub 0 rfl) (CellsAt.one rfl)) ?_
  have hH10 : Has E w8 [R] := (hH9.front 1 rfl).first 1 rfl
  exact ⟨rfl, hH10⟩
set_option maxHeartbeats 4000000 in
theorem mpoint_nil {E w : World} {R : List Hp} (hH : Has E w [R]) :
    Calls Tryz.prog 25 #[(.pointer none)] w fun e w' => e = .returned (.agg #[.int .i64 0, .int .i64 0]) ∧ Has E w' [R] := by
  refine c_enter (args := [(.pointer none)]) Tryz.func25 rfl Tryz.ntmps25 (by simp) ?_
  refine wp_seq_k fun K1 hK1 => ?_
  refine c_region ?_
  refine s_op (o_alloc (cs := #[(.int .i64 0), (.int .i64 0)]) ti50 rfl hH fun b2 w3 hH4 => ?_)
  refine s_nil ?_
  refine t_norm (hK1 _ _ ?_)
  refine wp_seq_k fun K5 hK5 => ?_
  refine wp_seq_k fun K6 hK6 => ?_
  refine c_region ?_
  refine s_op (o_move (v := (.pointer none)) rfl ?_)
  refine s_op (o_pnil (p := none) Tryz.underlying51 rfl rfl ?_)
  refine s_nil ?_
  refine t_norm (hK6 _ _ ?_)
  refine c_true rfl rfl ?_
  refine wp_seq_k fun K7 hK7 => ?_
  refine c_region ?_
  refine s_op (o_sight (v := (.agg #[(.int .i64 0), (.int .i64 0)])) (fun _ => by kernel_rfl) ?_)
  refine s_eff (o_storeN (vs := [(.int .i64 0), (.int .i64 0)]) (c' := #[(.int .i64 0), (.int .i64 0)]) ti50 rfl rfl rfl rfl (by intro u hu; simp only [List.mem_cons, List.not_mem_nil, or_false] at hu; rcases hu with rfl | rfl <;> first | rfl) (by simp) (by kernel_rfl) (hH4.front 0 rfl) fun w8 hH9 => ?_)
  refine s_nil ?_
  refine t_norm (hK7 _ _ ?_)
  refine wp_ret ?_
  refine t_ret (c_retC1 Tryz.results25 rfl (run_loadVarN (cs := [(.int .i64 0), (.int .i64 0)]) Tryz.underlying50 rfl ti50 hH9 (seg_sub 0 rfl) (CellsAt.one rfl)) ?_)
  have hH10 : Has E w8 [R] := (hH9.front 1 rfl).first 1 rfl
  exact ⟨rfl, hH10⟩
set_option maxHeartbeats 4000000 in
theorem mkeep_nil {E w : World} {R : List Hp} (hH : Has E w [R]) (pl pn : Int) :
    Calls Tryz.prog 24 #[(.pointer none), (.agg #[(.int .i64 pl), (.int .i64 pn)])] w fun e w' => e = .returned (.int .i64 1) ∧ Has E w' [R] := by
  refine c_enter (args := [(.pointer none), (.agg #[(.int .i64 pl), (.int .i64 pn)])]) Tryz.func24 rfl Tryz.ntmps24 (by simp) ?_
  refine wp_seq_k fun K1 hK1 => ?_
  refine c_region ?_
  refine s_op (o_box (cs := #[(.int .i64 pl), (.int .i64 pn)]) rfl rfl hH fun b2 w3 hH4 => ?_)
  refine s_op (o_assign (v := (.int .i64 0)) rfl ?_)
  refine s_nil ?_
  refine t_norm (hK1 _ _ ?_)
  refine wp_seq_k fun K5 hK5 => ?_
  refine wp_block ?_
  refine wp_seq_k fun K6 hK6 => ?_
  refine Rest.region mixed (by kernel_rfl) ?_
  have hH7 : Has E { w3 with drawn := w3.drawn + 1 } [[Hp.one b2 (.cells #[(.int .i64 pl), (.int .i64 pn)] 50 (0, 0))], R] := Has0.drew hH4 _
  refine r_op 0 rfl (by kernel_rfl) (o_move (v := (.pointer none)) rfl ?_)
  refine r_op 1 rfl (by kernel_rfl) (o_pnil (p := none) Tryz.underlying51 rfl rfl ?_)
  refine r_op 2 rfl (by kernel_rfl) (o_move (v := (.bool true)) rfl ?_)
  refine Rest.phaseA (fun w_ => Has E w_ []) 3 11 8 rfl (by decide) (by kernel_rfl) ?_
  refine a_off (b' := true) 3 rfl (by kernel_rfl) 10 rfl rfl rfl ?_
  refine a_off (b' := true) 4 rfl (by kernel_rfl) 10 rfl rfl rfl ?_
  refine a_off (b' := true) 5 rfl (by kernel_rfl) 10 rfl rfl rfl ?_
  refine a_off (b' := true) 6 rfl (by kernel_rfl) 10 rfl rfl rfl ?_
  refine a_off (b' := true) 7 rfl (by kernel_rfl) 10 rfl rfl rfl ?_
  refine a_off (b' := true) 8 rfl (by kernel_rfl) 10 rfl rfl rfl ?_
  refine a_off (b' := true) 9 rfl (by kernel_rfl) 10 rfl rfl rfl ?_
  refine a_off (b' := true) 10 rfl (by kernel_rfl) 10 rfl rfl rfl ?_
  have hH8 : Has E { w3 with drawn := w3.drawn + 1 } [] := hH7.first 0 rfl
  refine a_done (by kernel_rfl) hH8 ?_
  refine r_off (b' := true) 11 rfl (by kernel_rfl) 10 rfl rfl rfl ?_
  refine r_op 12 rfl (by kernel_rfl) (o_pick_t (u := (.bool true)) rfl rfl ?_)
  refine r_op 13 rfl (by kernel_rfl) (o_move (v := (.bool true)) rfl ?_)
  refine Rest.phaseA (fun w_ => Has E w_ []) 14 22 8 rfl (by decide) (by kernel_rfl) ?_
  refine a_off (b' := true) 14 rfl (by kernel_rfl) 21 rfl rfl rfl ?_
  refine a_off (b' := true) 15 rfl (by kernel_rfl) 21 rfl rfl rfl ?_
  refine a_off (b' := true) 16 rfl (by kernel_rfl) 21 rfl rfl rfl ?_
  refine a_off (b' := true) 17 rfl (by kernel_rfl) 21 rfl rfl rfl ?_
  refine a_off (b' := true) 18 rfl (by kernel_rfl) 21 rfl rfl rfl ?_
  refine a_off (b' := true) 19 rfl (by kernel_rfl) 21 rfl rfl rfl ?_
  refine a_off (b' := true) 20 rfl (by kernel_rfl) 21 rfl rfl rfl ?_
  refine a_off (b' := true) 21 rfl (by kernel_rfl) 21 rfl rfl rfl ?_
  have hH9 : Has E { w3 with drawn := w3.drawn + 1 } [] := hH7.first 0 rfl
  refine a_done (by kernel_rfl) hH9 ?_
  refine r_off (b' := true) 22 rfl (by kernel_rfl) 21 rfl rfl rfl ?_
  refine r_op 23 rfl (by kernel_rfl) (o_pick_t (u := (.bool true)) rfl rfl ?_)
  refine r_op 24 rfl (by kernel_rfl) (o_assign (v := (.bool true)) rfl ?_)
  refine Rest.done (by kernel_rfl) ?_
  refine t_norm (hK6 _ _ ?_)
  refine c_true rfl rfl ?_
  refine wp_seq_k fun K10 hK10 => ?_
  refine c_region ?_
  refine s_op (o_assign (v := (.int .i64 1)) rfl ?_)
  refine s_nil ?_
  refine t_norm (hK10 _ _ ?_)
  refine wp_ret ?_
  refine b_ret (t_ret (c_ret1 Tryz.results24  (v := (.int .i64 1)) rfl ?_))
  have hH11 : Has E { w3 with drawn := w3.drawn + 1 } [R] := (hH7.front 1 rfl).first 1 rfl
  exact ⟨rfl, hH11⟩
set_option maxHeartbeats 4000000 in
theorem open_nil {E w : World} {R : List Hp} (hH : Has E w [R]) :
    Calls Tryz.prog 23 #[(.pointer none)] w fun e w' => e = .returned (.tuple #[.pointer none, .int .i64 1]) ∧ Has E w' [R] := by
  refine c_enter (args := [(.pointer none)]) Tryz.func23 rfl Tryz.ntmps23 (by simp) ?_
  refine wp_seq_k fun K1 hK1 => ?_
  refine c_region ?_
  refine s_op (o_assign (v := (.pointer none)) rfl ?_)
  refine s_op (o_assign (v := (.int .i64 0)) rfl ?_)
  refine s_nil ?_
  refine t_norm (hK1 _ _ ?_)
  refine wp_seq_k fun K2 hK2 => ?_
  refine c_region ?_
  refine s_op (o_move (v := (.pointer none)) rfl ?_)
  refine s_op (o_callf (vs := #[(.pointer none), (.int .i64 0)]) ca19 rfl (args2 rfl rfl) (hload_nil hH.all 0) ?_)
  rintro _ w5 ⟨rfl, hX3⟩
  refine ⟨_, rfl, ?_⟩
  have hH4 := hX3.of_all
  refine s_op (o_move (v := (.tuple #[(.agg #[(.int .i64 hdZ.seq), (.int .i64 hdZ.ep), (.int .i64 hdZ.cut), (.int .i64 hdZ.st), (.int .i64 hdZ.mrk)]), (.int .i64 (1 : Int))])) rfl ?_)
  refine s_op (o_extract (v := (.agg #[(.int .i64 hdZ.seq), (.int .i64 hdZ.ep), (.int .i64 hdZ.cut), (.int .i64 hdZ.st), (.int .i64 hdZ.mrk)])) rfl rfl ?_)
  refine s_op (o_extract (v := (.int .i64 (1 : Int))) rfl rfl ?_)
  refine s_op (o_alloc (cs := #[(.int .i64 0), (.int .i64 0), (.int .i64 0), (.int .i64 0), (.int .i64 0)]) ti27 rfl hH4 fun b6 w7 hH8 => ?_)
  refine s_eff (o_storeN (vs := [(.int .i64 hdZ.seq), (.int .i64 hdZ.ep), (.int .i64 hdZ.cut), (.int .i64 hdZ.st), (.int .i64 hdZ.mrk)]) (c' := #[(.int .i64 hdZ.seq), (.int .i64 hdZ.ep), (.int .i64 hdZ.cut), (.int .i64 hdZ.st), (.int .i64 hdZ.mrk)]) ti27 rfl rfl rfl rfl (by intro u hu; simp only [List.mem_cons, List.not_mem_nil, or_false] at hu; rcases hu with rfl | rfl | rfl | rfl | rfl <;> first | rfl) (by simp) (by kernel_rfl) (hH8.front 0 rfl) fun w9 hH10 => ?_)
  refine s_op (o_assign (v := (.int .i64 (1 : Int))) rfl ?_)
  refine s_nil ?_
  refine t_norm (hK2 _ _ ?_)
  refine wp_seq_k fun K11 hK11 => ?_
  refine wp_block ?_
  refine wp_seq_k fun K12 hK12 => ?_
  refine c_region ?_
  refine s_op (o_move (v := (.int .i64 (1 : Int))) rfl ?_)
  refine s_op (o_neq (a := (1 : Int)) (b := 0) rfl rfl ?_)
  refine s_op (o_assign (v := (.bool (decide ((1 : Int) ≠ 0)))) rfl ?_)
  refine s_nil ?_
  refine t_norm (hK12 _ _ ?_)
  refine c_cond rfl (fun h13 => ?_) (fun h13 => ?_)
  · -- (1 : Int) ≠ 0
    refine wp_seq_k fun K14 hK14 => ?_
    refine c_region ?_
    refine s_op (o_move (v := (.int .i64 (1 : Int))) rfl ?_)
    refine s_op (o_assign (v := (.pointer none)) rfl ?_)
    refine s_op (o_assign (v := (.int .i64 (1 : Int))) rfl ?_)
    refine s_nil ?_
    refine t_norm (hK14 _ _ ?_)
    refine wp_ret ?_
    refine b_ret (t_ret (c_ret2 Tryz.results23  (v := (.pointer none)) rfl (x := (.int .i64 (1 : Int))) rfl ?_))
    have hH15 : Has E w9 [R] := (hH10.front 1 rfl).first 1 rfl
    exact ⟨rfl, hH15⟩
  · -- not: (1 : Int) ≠ 0
    exact absurd (by decide) h13
set_option maxHeartbeats 4000000 in
theorem fmt_nil {E w : World} {R : List Hp} (hH : Has E w [R]) (hg : CellsAt R 0 0 nibV) :
    Calls Tryz.prog 22 #[(.pointer none)] w fun e w' => e = .returned (.tuple #[.pointer none, .int .i64 1]) ∧ Has E w' [R] := by
  refine c_enter (args := [(.pointer none)]) Tryz.func22 rfl Tryz.ntmps22 (by simp) ?_
  refine wp_seq_k fun K1 hK1 => ?_
  refine c_region ?_
  refine s_op (o_assign (v := (.pointer none)) rfl ?_)
  refine s_op (o_assign (v := (.int .i64 0)) rfl ?_)
  refine s_nil ?_
  refine t_norm (hK1 _ _ ?_)
  refine wp_seq_k fun K2 hK2 => ?_
  refine c_region ?_
  refine s_op (o_move (v := (.pointer none)) rfl ?_)
  refine s_op (o_sight (v := (.agg #[(.int .i64 0), (.int .i64 0), (.int .i64 0), (.int .i64 0), (.int .i64 0)])) (fun _ => by kernel_rfl) ?_)
  refine s_op (o_callf (vs := #[(.pointer none), (.int .i64 0), (.agg #[(.int .i64 0), (.int .i64 0), (.int .i64 0), (.int .i64 0), (.int .i64 0)])]) ca26 rfl (args3 rfl rfl rfl) (hsave_nil hH.all (hg.mono (seg_sub 0 rfl)) 0 (h := (Hd.mk 0 0 0 0 0))) ?_)
  rintro _ w5 ⟨rfl, hX3⟩
  refine ⟨_, rfl, ?_⟩
  have hH4 := hX3.of_all
  refine s_op (o_move (v := (.tuple #[(.agg #[(.int .i64 hdZ.seq), (.int .i64 hdZ.ep), (.int .i64 hdZ.cut), (.int .i64 hdZ.st), (.int .i64 hdZ.mrk)]), (.int .i64 (1 : Int))])) rfl ?_)
  refine s_op (o_extract (v := (.agg #[(.int .i64 hdZ.seq), (.int .i64 hdZ.ep), (.int .i64 hdZ.cut), (.int .i64 hdZ.st), (.int .i64 hdZ.mrk)])) rfl rfl ?_)
  refine s_op (o_extract (v := (.int .i64 (1 : Int))) rfl rfl ?_)
  refine s_op (o_alloc (cs := #[(.int .i64 0), (.int .i64 0), (.int .i64 0), (.int .i64 0), (.int .i64 0)]) ti27 rfl hH4 fun b6 w7 hH8 => ?_)
  refine s_eff (o_storeN (vs := [(.int .i64 hdZ.seq), (.int .i64 hdZ.ep), (.int .i64 hdZ.cut), (.int .i64 hdZ.st), (.int .i64 hdZ.mrk)]) (c' := #[(.int .i64 hdZ.seq), (.int .i64 hdZ.ep), (.int .i64 hdZ.cut), (.int .i64 hdZ.st), (.int .i64 hdZ.mrk)]) ti27 rfl rfl rfl rfl (by intro u hu; simp only [List.mem_cons, List.not_mem_nil, or_false] at hu; rcases hu with rfl | rfl | rfl | rfl | rfl <;> first | rfl) (by simp) (by kernel_rfl) (hH8.front 0 rfl) fun w9 hH10 => ?_)
  refine s_op (o_assign (v := (.int .i64 (1 : Int))) rfl ?_)
  refine s_nil ?_
  refine t_norm (hK2 _ _ ?_)
  refine wp_seq_k fun K11 hK11 => ?_
  refine wp_seq_k fun K12 hK12 => ?_
  refine c_region ?_
  refine s_op (o_move (v := (.int .i64 (1 : Int))) rfl ?_)
  refine s_op (o_neq (a := (1 : Int)) (b := 0) rfl rfl ?_)
  refine s_nil ?_
  refine t_norm (hK12 _ _ ?_)
  refine c_cond rfl (fun h13 => ?_) (fun h13 => ?_)
  · -- (1 : Int) ≠ 0
    refine wp_seq_k fun K14 hK14 => ?_
    refine c_region ?_
    refine s_op (o_move (v := (.int .i64 (1 : Int))) rfl ?_)
    refine s_op (o_assign (v := (.pointer none)) rfl ?_)
    refine s_op (o_assign (v := (.int .i64 (1 : Int))) rfl ?_)
    refine s_nil ?_
    refine t_norm (hK14 _ _ ?_)
    refine wp_ret ?_
    refine t_ret (c_ret2 Tryz.results22  (v := (.pointer none)) rfl (x := (.int .i64 (1 : Int))) rfl ?_)
    have hH15 : Has E w9 [R] := (hH10.front 1 rfl).first 1 rfl
    exact ⟨rfl, hH15⟩
  · -- not: (1 : Int) ≠ 0
    exact absurd (by decide) h13
end Go.Q
namespace Go.Q
open Go.Proofs
set_option linter.unusedVariables false
set_option maxRecDepth 100000
attribute [local irreducible] wpList OK Code.wp
set_option maxHeartbeats 4000000 in
theorem fmt_ok {E w : World} {R sg : List Hp} {pb db : Nat} {p : Pw} {la : List Bs} (hH : Has E w [sg, [Hp.one pb (.cells #[(.bool p.off), (.bool p.armed), (.int .i64 p.left), (.int .i64 p.uses)] 78 (0, 0))], R]) (hd : DevAt pb sg db la []) (hg : CellsAt R 0 0 nibV) (hp : PwOk p) (hq : PwOk (useS p)) (hla : la.length ≤ 4096) (hT : svTry la.length 0 (Hd.mk 0 0 0 0 0)) (hb : useB p = true) (hb2 : useB (useS p) = true) :
    Calls Tryz.prog 22 #[(.pointer (some ⟨db, 0, none⟩))] w fun e w' => ∃ mb sg', e = .returned (.tuple #[.pointer (some ⟨mb, 0, none⟩), .int .i64 0]) ∧ DevAt pb sg' db (la.set (svN 0 (Hd.mk 0 0 0 0 0)).toNat (hdL (hdUp (Hd.mk 0 0 0 0 0)))) [] ∧ Has E w' [[Hp.one mb (.cells #[(.int .i64 (hdUp (Hd.mk 0 0 0 0 0)).st), (.int .i64 (hdUp (Hd.mk 0 0 0 0 0)).cut), (.int .i64 (hdUp (Hd.mk 0 0 0 0 0)).seq), (.int .i64 (hdUp (Hd.mk 0 0 0 0 0)).ep), (.int .i64 (hdUp (Hd.mk 0 0 0 0 0)).cut), (.int .i64 (hdUp (Hd.mk 0 0 0 0 0)).st), (.int .i64 (hdUp (Hd.mk 0 0 0 0 0)).mrk), (.pointer (some ⟨db, 0, none⟩))] 95 (0, 0))], sg', [Hp.one pb (.cells #[(.bool (useS (useS p)).off), (.bool (useS (useS p)).armed), (.int .i64 (useS (useS p)).left), (.int .i64 (useS (useS p)).uses)] 78 (0, 0))], R] := by
  refine c_enter (args := [(.pointer (some ⟨db, 0, none⟩))]) Tryz.func22 rfl Tryz.ntmps22 (by simp) ?_
  refine wp_seq_k fun K1 hK1 => ?_
  refine c_region ?_
  refine s_op (o_assign (v := (.pointer none)) rfl ?_)
  refine s_op (o_assign (v := (.int .i64 0)) rfl ?_)
  refine s_nil ?_
  refine t_norm (hK1 _ _ ?_)
  refine wp_seq_k fun K2 hK2 => ?_
  refine c_region ?_
  refine s_op (o_move (v := (.pointer (some ⟨db, 0, none⟩))) rfl ?_)
  refine s_op (o_sight (v := (.agg #[(.int .i64 0), (.int .i64 0), (.int .i64 0), (.int .i64 0), (.int .i64 0)])) (fun _ => by kernel_rfl) ?_)
  refine s_op (o_callf (vs := #[(.pointer (some ⟨db, 0, none⟩)), (.int .i64 0), (.agg #[(.int .i64 0), (.int .i64 0), (.int .i64 0), (.int .i64 0), (.int .i64 0)])]) ca26 rfl (args3 rfl rfl rfl) (hsave_ok (p := p) (la := la) ((hH.front 1 rfl).front 1 rfl).all2 hd (hg.mono (seg_sub 0 rfl)) hp hq hla (x := 0) (h := (Hd.mk 0 0 0 0 0)) hT hb hb2) ?_)
  rintro _ w7 ⟨sg3, rfl, hd4, hX5⟩
  refine ⟨_, rfl, ?_⟩
  have hH6 : Has E w7 [sg3, [Hp.one pb (.cells #[(.bool (useS (useS p)).off), (.bool (useS (useS p)).armed), (.int .i64 (useS (useS p)).left), (.int .i64 (useS (useS p)).uses)] 78 (0, 0))], R] := hX5.of_all2
  refine s_op (o_move (v := (.tuple #[(.agg #[(.int .i64 (hdUp (Hd.mk 0 0 0 0 0)).seq), (.int .i64 (hdUp (Hd.mk 0 0 0 0 0)).ep), (.int .i64 (hdUp (Hd.mk 0 0 0 0 0)).cut), (.int .i64 (hdUp (Hd.mk 0 0 0 0 0)).st), (.int .i64 (hdUp (Hd.mk 0 0 0 0 0)).mrk)]), (.int .i64 (0 : Int))])) rfl ?_)
  refine s_op (o_extract (v := (.agg #[(.int .i64 (hdUp (Hd.mk 0 0 0 0 0)).seq), (.int .i64 (hdUp (Hd.mk 0 0 0 0 0)).ep), (.int .i64 (hdUp (Hd.mk 0 0 0 0 0)).cut), (.int .i64 (hdUp (Hd.mk 0 0 0 0 0)).st), (.int .i64 (hdUp (Hd.mk 0 0 0 0 0)).mrk)])) rfl rfl ?_)
  refine s_op (o_extract (v := (.int .i64 (0 : Int))) rfl rfl ?_)
  refine s_op (o_alloc (cs := #[(.int .i64 0), (.int .i64 0), (.int .i64 0), (.int .i64 0), (.int .i64 0)]) ti27 rfl hH6 fun b8 w9 hH10 => ?_)
  refine s_eff (o_storeN (vs := [(.int .i64 (hdUp (Hd.mk 0 0 0 0 0)).seq), (.int .i64 (hdUp (Hd.mk 0 0 0 0 0)).ep), (.int .i64 (hdUp (Hd.mk 0 0 0 0 0)).cut), (.int .i64 (hdUp (Hd.mk 0 0 0 0 0)).st), (.int .i64 (hdUp (Hd.mk 0 0 0 0 0)).mrk)]) (c' := #[(.int .i64 (hdUp (Hd.mk 0 0 0 0 0)).seq), (.int .i64 (hdUp (Hd.mk 0 0 0 0 0)).ep), (.int .i64 (hdUp (Hd.mk 0 0 0 0 0)).cut), (.int .i64 (hdUp (Hd.mk 0 0 0 0 0)).st), (.int .i64 (hdUp (Hd.mk 0 0 0 0 0)).mrk)]) ti27 rfl rfl rfl rfl (by intro u hu; simp only [List.mem_cons, List.not_mem_nil, or_false] at hu; rcases hu with rfl | rfl | rfl | rfl | rfl <;> first | rfl) (by simp) (by kernel_rfl) (hH10.front 0 rfl) fun w11 hH12 => ?_)
  refine s_op (o_assign (v := (.int .i64 (0 : Int))) rfl ?_)
  refine s_nil ?_
  refine t_norm (hK2 _ _ ?_)
  refine wp_seq_k fun K13 hK13 => ?_
  refine wp_seq_k fun K14 hK14 => ?_
  refine c_region ?_
  refine s_op (o_move (v := (.int .i64 (0 : Int))) rfl ?_)
  refine s_op (o_neq (a := (0 : Int)) (b := 0) rfl rfl ?_)
  refine s_nil ?_
  refine t_norm (hK14 _ _ ?_)
  refine c_cond rfl (fun h15 => ?_) (fun h15 => ?_)
  · -- (0 : Int) ≠ 0
    exact absurd rfl h15
  · -- not: (0 : Int) ≠ 0
    refine wp_skip ?_
    refine t_norm (hK13 _ _ ?_)
    refine wp_seq_k fun K16 hK16 => ?_
    refine c_region ?_
    refine s_op (o_move (v := (.pointer (some ⟨db, 0, none⟩))) rfl ?_)
    refine s_op (o_loadN (cs := [(.int .i64 (hdUp (Hd.mk 0 0 0 0 0)).seq), (.int .i64 (hdUp (Hd.mk 0 0 0 0 0)).ep), (.int .i64 (hdUp (Hd.mk 0 0 0 0 0)).cut), (.int .i64 (hdUp (Hd.mk 0 0 0 0 0)).st), (.int .i64 (hdUp (Hd.mk 0 0 0 0 0)).mrk)]) Tryz.underlying27 rfl ti27 rfl hH12 (seg_sub 0 rfl) (CellsAt.one rfl) ?_)
    refine s_op (o_callf (vs := #[(.pointer (some ⟨db, 0, none⟩)), (.agg #[(.int .i64 (hdUp (Hd.mk 0 0 0 0 0)).seq), (.int .i64 (hdUp (Hd.mk 0 0 0 0 0)).ep), (.int .i64 (hdUp (Hd.mk 0 0 0 0 0)).cut), (.int .i64 (hdUp (Hd.mk 0 0 0 0 0)).st), (.int .i64 (hdUp (Hd.mk 0 0 0 0 0)).mrk)])]) ca48 rfl (args2 rfl rfl) (pat_c hH12.all db (hdUp (Hd.mk 0 0 0 0 0))) ?_)
    rintro _ w20 ⟨mb17, rfl, hX18⟩
    refine ⟨_, rfl, ?_⟩
    have hH19 : Has E w20 [[Hp.one mb17 (.cells #[(.int .i64 (hdUp (Hd.mk 0 0 0 0 0)).st), (.int .i64 (hdUp (Hd.mk 0 0 0 0 0)).cut), (.int .i64 (hdUp (Hd.mk 0 0 0 0 0)).seq), (.int .i64 (hdUp (Hd.mk 0 0 0 0 0)).ep), (.int .i64 (hdUp (Hd.mk 0 0 0 0 0)).cut), (.int .i64 (hdUp (Hd.mk 0 0 0 0 0)).st), (.int .i64 (hdUp (Hd.mk 0 0 0 0 0)).mrk), (.pointer (some ⟨db, 0, none⟩))] 95 (0, 0))], [Hp.one b8 (.cells #[(.int .i64 (hdUp (Hd.mk 0 0 0 0 0)).seq), (.int .i64 (hdUp (Hd.mk 0 0 0 0 0)).ep), (.int .i64 (hdUp (Hd.mk 0 0 0 0 0)).cut), (.int .i64 (hdUp (Hd.mk 0 0 0 0 0)).st), (.int .i64 (hdUp (Hd.mk 0 0 0 0 0)).mrk)] 27 (0, 0))], sg3, [Hp.one pb (.cells #[(.bool (useS (useS p)).off), (.bool (useS (useS p)).armed), (.int .i64 (useS (useS p)).left), (.int .i64 (useS (useS p)).uses)] 78 (0, 0))], R] := hX18.of_all1
    refine s_op (o_assign (v := (.pointer (some ⟨mb17, 0, none⟩))) rfl ?_)
    refine s_op (o_assign (v := (.int .i64 0)) rfl ?_)
    refine s_nil ?_
    refine t_norm (hK16 _ _ ?_)
    refine wp_ret ?_
    refine c_ret2 Tryz.results22  (v := (.pointer (some ⟨mb17, 0, none⟩))) rfl (x := (.int .i64 0)) rfl ?_
    have hH21 : Has E w20 [[Hp.one mb17 (.cells #[(.int .i64 (hdUp (Hd.mk 0 0 0 0 0)).st), (.int .i64 (hdUp (Hd.mk 0 0 0 0 0)).cut), (.int .i64 (hdUp (Hd.mk 0 0 0 0 0)).seq), (.int .i64 (hdUp (Hd.mk 0 0 0 0 0)).ep), (.int .i64 (hdUp (Hd.mk 0 0 0 0 0)).cut), (.int .i64 (hdUp (Hd.mk 0 0 0 0 0)).st), (.int .i64 (hdUp (Hd.mk 0 0 0 0 0)).mrk), (.pointer (some ⟨db, 0, none⟩))] 95 (0, 0))], sg3, [Hp.one pb (.cells #[(.bool (useS (useS p)).off), (.bool (useS (useS p)).armed), (.int .i64 (useS (useS p)).left), (.int .i64 (useS (useS p)).uses)] 78 (0, 0))], R] := ((((hH19.front 4 rfl).front 4 rfl).front 4 rfl).front 3 rfl).first 4 rfl
    exact ⟨_, _, rfl, hd4, hH21⟩
set_option maxHeartbeats 4000000 in
theorem open_no {E w : World} {R sg : List Hp} {pb db : Nat} {p : Pw} {la : List Bs} (hH : Has E w [sg, [Hp.one pb (.cells #[(.bool p.off), (.bool p.armed), (.int .i64 p.left), (.int .i64 p.uses)] 78 (0, 0))], R]) (hd : DevAt pb sg db la []) (hg : CellsAt R 0 0 nibV) (h64 : Full64 la) (hla : la.length ≤ 4096) {n : Int} (hn : ldE p la 0 = n) (hn0 : n ≠ 0) :
    Calls Tryz.prog 23 #[(.pointer (some ⟨db, 0, none⟩))] w fun e w' => e = .returned (.tuple #[.pointer none, .int .i64 n]) ∧ Has E w' [sg, [Hp.one pb (.cells #[(.bool p.off), (.bool p.armed), (.int .i64 p.left), (.int .i64 p.uses)] 78 (0, 0))], R] := by
  refine c_enter (args := [(.pointer (some ⟨db, 0, none⟩))]) Tryz.func23 rfl Tryz.ntmps23 (by simp) ?_
  refine wp_seq_k fun K1 hK1 => ?_
  refine c_region ?_
  refine s_op (o_assign (v := (.pointer none)) rfl ?_)
  refine s_op (o_assign (v := (.int .i64 0)) rfl ?_)
  refine s_nil ?_
  refine t_norm (hK1 _ _ ?_)
  refine wp_seq_k fun K2 hK2 => ?_
  refine c_region ?_
  refine s_op (o_move (v := (.pointer (some ⟨db, 0, none⟩))) rfl ?_)
  refine s_op (o_callf (vs := #[(.pointer (some ⟨db, 0, none⟩)), (.int .i64 0)]) ca19 rfl (args2 rfl rfl) (hload_c (p := p) (la := la) ((hH.front 1 rfl).front 1 rfl).all2 hd (hg.mono (seg_sub 0 rfl)) h64 hla 0) ?_)
  rintro _ w5 ⟨rfl, hX3⟩
  refine ⟨_, rfl, ?_⟩
  have hH4 : Has E w5 [sg, [Hp.one pb (.cells #[(.bool p.off), (.bool p.armed), (.int .i64 p.left), (.int .i64 p.uses)] 78 (0, 0))], R] := hX3.of_all2
  refine s_op (o_move (v := (.tuple #[(.agg #[(.int .i64 (ldH p la 0).seq), (.int .i64 (ldH p la 0).ep), (.int .i64 (ldH p la 0).cut), (.int .i64 (ldH p la 0).st), (.int .i64 (ldH p la 0).mrk)]), (.int .i64 (ldE p la 0))])) rfl ?_)
  refine s_op (o_extract (v := (.agg #[(.int .i64 (ldH p la 0).seq), (.int .i64 (ldH p la 0).ep), (.int .i64 (ldH p la 0).cut), (.int .i64 (ldH p la 0).st), (.int .i64 (ldH p la 0).mrk)])) rfl rfl ?_)
  refine s_op (o_extract (v := (.int .i64 (ldE p la 0))) rfl rfl ?_)
  refine s_op (o_alloc (cs := #[(.int .i64 0), (.int .i64 0), (.int .i64 0), (.int .i64 0), (.int .i64 0)]) ti27 rfl hH4 fun b6 w7 hH8 => ?_)
  refine s_eff (o_storeN (vs := [(.int .i64 (ldH p la 0).seq), (.int .i64 (ldH p la 0).ep), (.int .i64 (ldH p la 0).cut), (.int .i64 (ldH p la 0).st), (.int .i64 (ldH p la 0).mrk)]) (c' := #[(.int .i64 (ldH p la 0).seq), (.int .i64 (ldH p la 0).ep), (.int .i64 (ldH p la 0).cut), (.int .i64 (ldH p la 0).st), (.int .i64 (ldH p la 0).mrk)]) ti27 rfl rfl rfl rfl (by intro u hu; simp only [List.mem_cons, List.not_mem_nil, or_false] at hu; rcases hu with rfl | rfl | rfl | rfl | rfl <;> first | rfl) (by simp) (by kernel_rfl) (hH8.front 0 rfl) fun w9 hH10 => ?_)
  refine s_op (o_assign (v := (.int .i64 (ldE p la 0))) rfl ?_)
  refine s_nil ?_
  refine t_norm (hK2 _ _ ?_)
  refine wp_seq_k fun K11 hK11 => ?_
  refine wp_block ?_
  refine wp_seq_k fun K12 hK12 => ?_
  refine c_region ?_
  refine s_op (o_move (v := (.int .i64 (ldE p la 0))) rfl ?_)
  refine s_op (o_neq (a := ldE p la 0) (b := 0) rfl rfl ?_)
  refine s_op (o_assign (v := (.bool (decide (ldE p la 0 ≠ 0)))) rfl ?_)
  refine s_nil ?_
  refine t_norm (hK12 _ _ ?_)
  refine c_cond rfl (fun h13 => ?_) (fun h13 => ?_)
  · -- ldE p la 0 ≠ 0
    refine wp_seq_k fun K14 hK14 => ?_
    refine c_region ?_
    refine s_op (o_move (v := (.int .i64 (ldE p la 0))) rfl ?_)
    refine s_op (o_assign (v := (.pointer none)) rfl ?_)
    refine s_op (o_assign (v := (.int .i64 (ldE p la 0))) rfl ?_)
    refine s_nil ?_
    refine t_norm (hK14 _ _ ?_)
    refine wp_ret ?_
    refine b_ret (t_ret (c_ret2 Tryz.results23  (v := (.pointer none)) rfl (x := (.int .i64 (ldE p la 0))) rfl ?_))
    have hH15 : Has E w9 [sg, [Hp.one pb (.cells #[(.bool p.off), (.bool p.armed), (.int .i64 p.left), (.int .i64 p.uses)] 78 (0, 0))], R] := (((hH10.front 3 rfl).front 3 rfl).front 3 rfl).first 3 rfl
    exact ⟨by first | rfl | rw [hn], hH15⟩
  · -- not: ldE p la 0 ≠ 0
    exact absurd (by rw [hn]; exact hn0) h13
set_option maxHeartbeats 4000000 in
theorem open_bad {E w : World} {R sg : List Hp} {pb db : Nat} {p : Pw} {la : List Bs} (hH : Has E w [sg, [Hp.one pb (.cells #[(.bool p.off), (.bool p.armed), (.int .i64 p.left), (.int .i64 p.uses)] 78 (0, 0))], R]) (hd : DevAt pb sg db la []) (hg : CellsAt R 0 0 nibV) (h64 : Full64 la) (hla : la.length ≤ 4096) {h : Hd} (hh : ldH p la 0 = h) (hn : ldE p la 0 = 0) (hk : h.ep ≠ 0 ∨ h.mrk ≠ 0) :
    Calls Tryz.prog 23 #[(.pointer (some ⟨db, 0, none⟩))] w fun e w' => e = .returned (.tuple #[.pointer none, .int .i64 9]) ∧ Has E w' [sg, [Hp.one pb (.cells #[(.bool p.off), (.bool p.armed), (.int .i64 p.left), (.int .i64 p.uses)] 78 (0, 0))], R] := by
  refine c_enter (args := [(.pointer (some ⟨db, 0, none⟩))]) Tryz.func23 rfl Tryz.ntmps23 (by simp) ?_
  refine wp_seq_k fun K1 hK1 => ?_
  refine c_region ?_
  refine s_op (o_assign (v := (.pointer none)) rfl ?_)
  refine s_op (o_assign (v := (.int .i64 0)) rfl ?_)
  refine s_nil ?_
  refine t_norm (hK1 _ _ ?_)
  refine wp_seq_k fun K2 hK2 => ?_
  refine c_region ?_
  refine s_op (o_move (v := (.pointer (some ⟨db, 0, none⟩))) rfl ?_)
  refine s_op (o_callf (vs := #[(.pointer (some ⟨db, 0, none⟩)), (.int .i64 0)]) ca19 rfl (args2 rfl rfl) (hload_c (p := p) (la := la) ((hH.front 1 rfl).front 1 rfl).all2 hd (hg.mono (seg_sub 0 rfl)) h64 hla 0) ?_)
  rintro _ w5 ⟨rfl, hX3⟩
  refine ⟨_, rfl, ?_⟩
  have hH4 : Has E w5 [sg, [Hp.one pb (.cells #[(.bool p.off), (.bool p.armed), (.int .i64 p.left), (.int .i64 p.uses)] 78 (0, 0))], R] := hX3.of_all2
  refine s_op (o_move (v := (.tuple #[(.agg #[(.int .i64 (ldH p la 0).seq), (.int .i64 (ldH p la 0).ep), (.int .i64 (ldH p la 0).cut), (.int .i64 (ldH p la 0).st), (.int .i64 (ldH p la 0).mrk)]), (.int .i64 (ldE p la 0))])) rfl ?_)
  refine s_op (o_extract (v := (.agg #[(.int .i64 (ldH p la 0).seq), (.int .i64 (ldH p la 0).ep), (.int .i64 (ldH p la 0).cut), (.int .i64 (ldH p la 0).st), (.int .i64 (ldH p la 0).mrk)])) rfl rfl ?_)
  refine s_op (o_extract (v := (.int .i64 (ldE p la 0))) rfl rfl ?_)
  refine s_op (o_alloc (cs := #[(.int .i64 0), (.int .i64 0), (.int .i64 0), (.int .i64 0), (.int .i64 0)]) ti27 rfl hH4 fun b6 w7 hH8 => ?_)
  refine s_eff (o_storeN (vs := [(.int .i64 (ldH p la 0).seq), (.int .i64 (ldH p la 0).ep), (.int .i64 (ldH p la 0).cut), (.int .i64 (ldH p la 0).st), (.int .i64 (ldH p la 0).mrk)]) (c' := #[(.int .i64 (ldH p la 0).seq), (.int .i64 (ldH p la 0).ep), (.int .i64 (ldH p la 0).cut), (.int .i64 (ldH p la 0).st), (.int .i64 (ldH p la 0).mrk)]) ti27 rfl rfl rfl rfl (by intro u hu; simp only [List.mem_cons, List.not_mem_nil, or_false] at hu; rcases hu with rfl | rfl | rfl | rfl | rfl <;> first | rfl) (by simp) (by kernel_rfl) (hH8.front 0 rfl) fun w9 hH10 => ?_)
  refine s_op (o_assign (v := (.int .i64 (ldE p la 0))) rfl ?_)
  refine s_nil ?_
  refine t_norm (hK2 _ _ ?_)
  refine wp_seq_k fun K11 hK11 => ?_
  refine wp_block ?_
  refine wp_seq_k fun K12 hK12 => ?_
  refine c_region ?_
  refine s_op (o_move (v := (.int .i64 (ldE p la 0))) rfl ?_)
  refine s_op (o_neq (a := ldE p la 0) (b := 0) rfl rfl ?_)
  refine s_op (o_assign (v := (.bool (decide (ldE p la 0 ≠ 0)))) rfl ?_)
  refine s_nil ?_
  refine t_norm (hK12 _ _ ?_)
  refine c_cond rfl (fun h13 => ?_) (fun h13 => ?_)
  · -- ldE p la 0 ≠ 0
    exact absurd hn h13
  · -- not: ldE p la 0 ≠ 0
    refine wp_seq_k fun K14 hK14 => ?_
    refine c_region ?_
    refine s_op (o_fieldAddr (k := 1) (fun _ => by kernel_rfl) rfl ?_)
    refine s_op (o_load1 (v := (.int .i64 (ldH p la 0).ep)) Tryz.underlying3 rfl rfl hH10 (seg_sub 0 rfl) (CellsAt.one rfl) ?_)
    refine s_op (o_neq (a := (ldH p la 0).ep) (b := 0) rfl rfl ?_)
    refine s_op (o_move (v := (.bool (decide ((ldH p la 0).ep ≠ 0)))) rfl ?_)
    by_cases h15 : (ldH p la 0).ep ≠ 0
    · -- (ldH p la 0).ep ≠ 0
      refine s_off (b' := true) 19 rfl (congrArg Value.bool (decide_eq_true h15)) rfl ?_
      refine s_off (b' := true) 19 rfl (congrArg Value.bool (decide_eq_true h15)) rfl ?_
      refine s_off (b' := true) 19 rfl (congrArg Value.bool (decide_eq_true h15)) rfl ?_
      refine s_op (o_pick_t (u := (.bool true)) ((rfl : _ = _).trans (congrArg Value.bool (decide_eq_true h15))) rfl ?_)
      refine s_op (o_assign (v := (.bool true)) rfl ?_)
      refine s_nil ?_
      refine t_norm (hK14 _ _ ?_)
      refine c_true rfl rfl ?_
      refine wp_seq_k fun K16 hK16 => ?_
      refine c_region ?_
      refine s_op (o_assign (v := (.pointer none)) rfl ?_)
      refine s_op (o_assign (v := (.int .i64 9)) rfl ?_)
      refine s_nil ?_
      refine t_norm (hK16 _ _ ?_)
      refine wp_ret ?_
      refine b_ret (t_ret (c_ret2 Tryz.results23  (v := (.pointer none)) rfl (x := (.int .i64 9)) rfl ?_))
      have hH17 : Has E w9 [sg, [Hp.one pb (.cells #[(.bool p.off), (.bool p.armed), (.int .i64 p.left), (.int .i64 p.uses)] 78 (0, 0))], R] := (((hH10.front 3 rfl).front 3 rfl).front 3 rfl).first 3 rfl
      exact ⟨by first | rfl | rw [hn], hH17⟩
    · -- not: (ldH p la 0).ep ≠ 0
      refine s_on 19 rfl (congrArg Value.bool (decide_eq_false h15)) (o_fieldAddr (k := 4) (fun _ => by kernel_rfl) rfl ?_)
      refine s_on 19 rfl (congrArg Value.bool (decide_eq_false h15)) (o_load1 (v := (.int .i64 (ldH p la 0).mrk)) Tryz.underlying3 rfl rfl hH10 (seg_sub 0 rfl) (CellsAt.one rfl) ?_)
      refine s_on 19 rfl (congrArg Value.bool (decide_eq_false h15)) (o_neq (a := (ldH p la 0).mrk) (b := 0) rfl rfl ?_)
      refine s_op (o_pick_f (u := (.bool (decide ((ldH p la 0).mrk ≠ 0)))) ((rfl : _ = _).trans (congrArg Value.bool (decide_eq_false h15))) rfl ?_)
      refine s_op (o_assign (v := (.bool (decide ((ldH p la 0).mrk ≠ 0)))) rfl ?_)
      refine s_nil ?_
      refine t_norm (hK14 _ _ ?_)
      refine c_cond rfl (fun h18 => ?_) (fun h18 => ?_)
      · -- (ldH p la 0).mrk ≠ 0
        refine wp_seq_k fun K19 hK19 => ?_
        refine c_region ?_
        refine s_op (o_assign (v := (.pointer none)) rfl ?_)
        refine s_op (o_assign (v := (.int .i64 9)) rfl ?_)
        refine s_nil ?_
        refine t_norm (hK19 _ _ ?_)
        refine wp_ret ?_
        refine b_ret (t_ret (c_ret2 Tryz.results23  (v := (.pointer none)) rfl (x := (.int .i64 9)) rfl ?_))
        have hH20 : Has E w9 [sg, [Hp.one pb (.cells #[(.bool p.off), (.bool p.armed), (.int .i64 p.left), (.int .i64 p.uses)] 78 (0, 0))], R] := (((hH10.front 3 rfl).front 3 rfl).front 3 rfl).first 3 rfl
        exact ⟨by first | rfl | rw [hn], hH20⟩
      · -- not: (ldH p la 0).mrk ≠ 0
        exact absurd hk (by rw [← hh]; omega)
set_option maxHeartbeats 4000000 in
theorem open_yes {E w : World} {R sg : List Hp} {pb db : Nat} {p : Pw} {la : List Bs} (hH : Has E w [sg, [Hp.one pb (.cells #[(.bool p.off), (.bool p.armed), (.int .i64 p.left), (.int .i64 p.uses)] 78 (0, 0))], R]) (hd : DevAt pb sg db la []) (hg : CellsAt R 0 0 nibV) (h64 : Full64 la) (hla : la.length ≤ 4096) {h : Hd} (hh : ldH p la 0 = h) (hn : ldE p la 0 = 0) (hk1 : h.ep = 0) (hk2 : h.mrk = 0) :
    Calls Tryz.prog 23 #[(.pointer (some ⟨db, 0, none⟩))] w fun e w' => ∃ mb, e = .returned (.tuple #[.pointer (some ⟨mb, 0, none⟩), .int .i64 0]) ∧ Has E w' [[Hp.one mb (.cells #[(.int .i64 h.st), (.int .i64 h.cut), (.int .i64 h.seq), (.int .i64 h.ep), (.int .i64 h.cut), (.int .i64 h.st), (.int .i64 h.mrk), (.pointer (some ⟨db, 0, none⟩))] 95 (0, 0))], sg, [Hp.one pb (.cells #[(.bool p.off), (.bool p.armed), (.int .i64 p.left), (.int .i64 p.uses)] 78 (0, 0))], R] := by
  refine c_enter (args := [(.pointer (some ⟨db, 0, none⟩))]) Tryz.func23 rfl Tryz.ntmps23 (by simp) ?_
  refine wp_seq_k fun K1 hK1 => ?_
  refine c_region ?_
  refine s_op (o_assign (v := (.pointer none)) rfl ?_)
  refine s_op (o_assign (v := (.int .i64 0)) rfl ?_)
  refine s_nil ?_
  refine t_norm (hK1 _ _ ?_)
  refine wp_seq_k fun K2 hK2 => ?_
  refine c_region ?_
  refine s_op (o_move (v := (.pointer (some ⟨db, 0, none⟩))) rfl ?_)
  refine s_op (o_callf (vs := #[(.pointer (some ⟨db, 0, none⟩)), (.int .i64 0)]) ca19 rfl (args2 rfl rfl) (hload_c (p := p) (la := la) ((hH.front 1 rfl).front 1 rfl).all2 hd (hg.mono (seg_sub 0 rfl)) h64 hla 0) ?_)
  rintro _ w5 ⟨rfl, hX3⟩
  refine ⟨_, rfl, ?_⟩
  have hH4 : Has E w5 [sg, [Hp.one pb (.cells #[(.bool p.off), (.bool p.armed), (.int .i64 p.left), (.int .i64 p.uses)] 78 (0, 0))], R] := hX3.of_all2
  refine s_op (o_move (v := (.tuple #[(.agg #[(.int .i64 (ldH p la 0).seq), (.int .i64 (ldH p la 0).ep), (.int .i64 (ldH p la 0).cut), (.int .i64 (ldH p la 0).st), (.int .i64 (ldH p la 0).mrk)]), (.int .i64 (ldE p la 0))])) rfl ?_)
  refine s_op (o_extract (v := (.agg #[(.int .i64 (ldH p la 0).seq), (.int .i64 (ldH p la 0).ep), (.int .i64 (ldH p la 0).cut), (.int .i64 (ldH p la 0).st), (.int .i64 (ldH p la 0).mrk)])) rfl rfl ?_)
  refine s_op (o_extract (v := (.int .i64 (ldE p la 0))) rfl rfl ?_)
  refine s_op (o_alloc (cs := #[(.int .i64 0), (.int .i64 0), (.int .i64 0), (.int .i64 0), (.int .i64 0)]) ti27 rfl hH4 fun b6 w7 hH8 => ?_)
  refine s_eff (o_storeN (vs := [(.int .i64 (ldH p la 0).seq), (.int .i64 (ldH p la 0).ep), (.int .i64 (ldH p la 0).cut), (.int .i64 (ldH p la 0).st), (.int .i64 (ldH p la 0).mrk)]) (c' := #[(.int .i64 (ldH p la 0).seq), (.int .i64 (ldH p la 0).ep), (.int .i64 (ldH p la 0).cut), (.int .i64 (ldH p la 0).st), (.int .i64 (ldH p la 0).mrk)]) ti27 rfl rfl rfl rfl (by intro u hu; simp only [List.mem_cons, List.not_mem_nil, or_false] at hu; rcases hu with rfl | rfl | rfl | rfl | rfl <;> first | rfl) (by simp) (by kernel_rfl) (hH8.front 0 rfl) fun w9 hH10 => ?_)
  refine s_op (o_assign (v := (.int .i64 (ldE p la 0))) rfl ?_)
  refine s_nil ?_
  refine t_norm (hK2 _ _ ?_)
  refine wp_seq_k fun K11 hK11 => ?_
  refine wp_block ?_
  refine wp_seq_k fun K12 hK12 => ?_
  refine c_region ?_
  refine s_op (o_move (v := (.int .i64 (ldE p la 0))) rfl ?_)
  refine s_op (o_neq (a := ldE p la 0) (b := 0) rfl rfl ?_)
  refine s_op (o_assign (v := (.bool (decide (ldE p la 0 ≠ 0)))) rfl ?_)
  refine s_nil ?_
  refine t_norm (hK12 _ _ ?_)
  refine c_cond rfl (fun h13 => ?_) (fun h13 => ?_)
  · -- ldE p la 0 ≠ 0
    exact absurd hn h13
  · -- not: ldE p la 0 ≠ 0
    refine wp_seq_k fun K14 hK14 => ?_
    refine c_region ?_
    refine s_op (o_fieldAddr (k := 1) (fun _ => by kernel_rfl) rfl ?_)
    refine s_op (o_load1 (v := (.int .i64 (ldH p la 0).ep)) Tryz.underlying3 rfl rfl hH10 (seg_sub 0 rfl) (CellsAt.one rfl) ?_)
    refine s_op (o_neq (a := (ldH p la 0).ep) (b := 0) rfl rfl ?_)
    refine s_op (o_move (v := (.bool (decide ((ldH p la 0).ep ≠ 0)))) rfl ?_)
    by_cases h15 : (ldH p la 0).ep ≠ 0
    · -- (ldH p la 0).ep ≠ 0
      exact absurd (by rw [hh]; assumption) h15
    · -- not: (ldH p la 0).ep ≠ 0
      refine s_on 19 rfl (congrArg Value.bool (decide_eq_false h15)) (o_fieldAddr (k := 4) (fun _ => by kernel_rfl) rfl ?_)
      refine s_on 19 rfl (congrArg Value.bool (decide_eq_false h15)) (o_load1 (v := (.int .i64 (ldH p la 0).mrk)) Tryz.underlying3 rfl rfl hH10 (seg_sub 0 rfl) (CellsAt.one rfl) ?_)
      refine s_on 19 rfl (congrArg Value.bool (decide_eq_false h15)) (o_neq (a := (ldH p la 0).mrk) (b := 0) rfl rfl ?_)
      refine s_op (o_pick_f (u := (.bool (decide ((ldH p la 0).mrk ≠ 0)))) ((rfl : _ = _).trans (congrArg Value.bool (decide_eq_false h15))) rfl ?_)
      refine s_op (o_assign (v := (.bool (decide ((ldH p la 0).mrk ≠ 0)))) rfl ?_)
      refine s_nil ?_
      refine t_norm (hK14 _ _ ?_)
      refine c_cond rfl (fun h16 => ?_) (fun h16 => ?_)
      · -- (ldH p la 0).mrk ≠ 0
        exact absurd (by rw [hh]; assumption) h16
      · -- not: (ldH p la 0).mrk ≠ 0
        refine wp_skip ?_
        refine b_norm ?_
        refine t_norm (hK11 _ _ ?_)
        refine wp_seq_k fun K17 hK17 => ?_
        refine c_region ?_
        refine s_op (o_move (v := (.pointer (some ⟨db, 0, none⟩))) rfl ?_)
        refine s_op (o_loadN (cs := [(.int .i64 (ldH p la 0).seq), (.int .i64 (ldH p la 0).ep), (.int .i64 (ldH p la 0).cut), (.int .i64 (ldH p la 0).st), (.int .i64 (ldH p la 0).mrk)]) Tryz.underlying27 rfl ti27 rfl hH10 (seg_sub 0 rfl) (CellsAt.one rfl) ?_)
        refine s_op (o_callf (vs := #[(.pointer (some ⟨db, 0, none⟩)), (.agg #[(.int .i64 (ldH p la 0).seq), (.int .i64 (ldH p la 0).ep), (.int .i64 (ldH p la 0).cut), (.int .i64 (ldH p la 0).st), (.int .i64 (ldH p la 0).mrk)])]) ca48 rfl (args2 rfl rfl) (pat_c hH10.all db (ldH p la 0)) ?_)
        rintro _ w21 ⟨mb18, rfl, hX19⟩
        refine ⟨_, rfl, ?_⟩
        have hH20 : Has E w21 [[Hp.one mb18 (.cells #[(.int .i64 (ldH p la 0).st), (.int .i64 (ldH p la 0).cut), (.int .i64 (ldH p la 0).seq), (.int .i64 (ldH p la 0).ep), (.int .i64 (ldH p la 0).cut), (.int .i64 (ldH p la 0).st), (.int .i64 (ldH p la 0).mrk), (.pointer (some ⟨db, 0, none⟩))] 95 (0, 0))], [Hp.one b6 (.cells #[(.int .i64 (ldH p la 0).seq), (.int .i64 (ldH p la 0).ep), (.int .i64 (ldH p la 0).cut), (.int .i64 (ldH p la 0).st), (.int .i64 (ldH p la 0).mrk)] 27 (0, 0))], sg, [Hp.one pb (.cells #[(.bool p.off), (.bool p.armed), (.int .i64 p.left), (.int .i64 p.uses)] 78 (0, 0))], R] := hX19.of_all1
        refine s_op (o_assign (v := (.pointer (some ⟨mb18, 0, none⟩))) rfl ?_)
        refine s_op (o_assign (v := (.int .i64 0)) rfl ?_)
        refine s_nil ?_
        refine t_norm (hK17 _ _ ?_)
        refine wp_ret ?_
        refine c_ret2 Tryz.results23  (v := (.pointer (some ⟨mb18, 0, none⟩))) rfl (x := (.int .i64 0)) rfl ?_
        have hH22 : Has E w21 [[Hp.one mb18 (.cells #[(.int .i64 (ldH p la 0).st), (.int .i64 (ldH p la 0).cut), (.int .i64 (ldH p la 0).seq), (.int .i64 (ldH p la 0).ep), (.int .i64 (ldH p la 0).cut), (.int .i64 (ldH p la 0).st), (.int .i64 (ldH p la 0).mrk), (.pointer (some ⟨db, 0, none⟩))] 95 (0, 0))], sg, [Hp.one pb (.cells #[(.bool p.off), (.bool p.armed), (.int .i64 p.left), (.int .i64 p.uses)] 78 (0, 0))], R] := ((((hH20.front 4 rfl).front 4 rfl).front 4 rfl).front 3 rfl).first 4 rfl
        exact ⟨mb18, rfl, by rw [← hh]; exact hH22⟩
end Go.Q
namespace Go.Q
open Go.Proofs
set_option linter.unusedVariables false
set_option maxRecDepth 100000
attribute [local irreducible] wpList OK Code.wp
set_option maxHeartbeats 4000000 in
theorem keep_ok {E w : World} {R sg : List Hp} {pb db mb : Nat} {p : Pw} {la : List Bs} {h : Hd} (hH : Has E w [sg, [Hp.one pb (.cells #[(.bool p.off), (.bool p.armed), (.int .i64 p.left), (.int .i64 p.uses)] 78 (0, 0))], [Hp.one mb (.cells #[(.int .i64 h.st), (.int .i64 h.cut), (.int .i64 h.seq), (.int .i64 h.ep), (.int .i64 h.cut), (.int .i64 h.st), (.int .i64 h.mrk), (.pointer (some ⟨db, 0, none⟩))] 95 (0, 0))], R]) (hd : DevAt pb sg db la []) (hg : CellsAt R 0 0 nibV) (hp : PwOk p) (hq : PwOk (useS p)) (hla : la.length ≤ 4096) {pl pn : Int} (hge : h.st ≤ pl ∧ h.cut ≤ pn) (hne : ¬ (pl = h.st ∧ pn = h.cut)) (hT : svTry la.length 0 (hdK h pl pn)) (hb : useB p = true) (hb2 : useB (useS p) = true) :
    Calls Tryz.prog 24 #[(.pointer (some ⟨mb, 0, none⟩)), (.agg #[(.int .i64 pl), (.int .i64 pn)])] w fun e w' => ∃ sg', e = .returned (.int .i64 0) ∧ DevAt pb sg' db (la.set (svN 0 (hdK h pl pn)).toNat (hdL (hdUp (hdK h pl pn)))) [] ∧ Has E w' [sg', [Hp.one pb (.cells #[(.bool (useS (useS p)).off), (.bool (useS (useS p)).armed), (.int .i64 (useS (useS p)).left), (.int .i64 (useS (useS p)).uses)] 78 (0, 0))], [Hp.one mb (.cells #[(.int .i64 (hdUp (hdK h pl pn)).st), (.int .i64 (hdUp (hdK h pl pn)).cut), (.int .i64 (hdUp (hdK h pl pn)).seq), (.int .i64 (hdUp (hdK h pl pn)).ep), (.int .i64 (hdUp (hdK h pl pn)).cut), (.int .i64 (hdUp (hdK h pl pn)).st), (.int .i64 (hdUp (hdK h pl pn)).mrk), (.pointer (some ⟨db, 0, none⟩))] 95 (0, 0))], R] := by
  refine c_enter (args := [(.pointer (some ⟨mb, 0, none⟩)), (.agg #[(.int .i64 pl), (.int .i64 pn)])]) Tryz.func24 rfl Tryz.ntmps24 (by simp) ?_
  refine wp_seq_k fun K1 hK1 => ?_
  refine c_region ?_
  refine s_op (o_box (cs := #[(.int .i64 pl), (.int .i64 pn)]) rfl rfl hH fun b2 w3 hH4 => ?_)
  refine s_op (o_assign (v := (.int .i64 0)) rfl ?_)
  refine s_nil ?_
  refine t_norm (hK1 _ _ ?_)
  refine wp_seq_k fun K5 hK5 => ?_
  refine wp_block ?_
  refine wp_seq_k fun K6 hK6 => ?_
  refine Rest.region mixed (by kernel_rfl) ?_
  have hH7 : Has E { w3 with drawn := w3.drawn + 1 } [[Hp.one b2 (.cells #[(.int .i64 pl), (.int .i64 pn)] 50 (0, 0))], sg, [Hp.one pb (.cells #[(.bool p.off), (.bool p.armed), (.int .i64 p.left), (.int .i64 p.uses)] 78 (0, 0))], [Hp.one mb (.cells #[(.int .i64 h.st), (.int .i64 h.cut), (.int .i64 h.seq), (.int .i64 h.ep), (.int .i64 h.cut), (.int .i64 h.st), (.int .i64 h.mrk), (.pointer (some ⟨db, 0, none⟩))] 95 (0, 0))], R] := Has0.drew hH4 _
  refine r_op 0 rfl (by kernel_rfl) (o_move (v := (.pointer (some ⟨mb, 0, none⟩))) rfl ?_)
  refine r_op 1 rfl (by kernel_rfl) (o_pnil (p := some _) Tryz.underlying51 rfl rfl ?_)
  refine r_op 2 rfl (by kernel_rfl) (o_move (v := (.bool false)) rfl ?_)
  refine Rest.phaseA (fun w_ => Has E w_ [[Hp.one b2 (.cells #[(.int .i64 pl), (.int .i64 pn)] 50 (0, 0))], [Hp.one mb (.cells #[(.int .i64 h.st), (.int .i64 h.cut), (.int .i64 h.seq), (.int .i64 h.ep), (.int .i64 h.cut), (.int .i64 h.st), (.int .i64 h.mrk), (.pointer (some ⟨db, 0, none⟩))] 95 (0, 0))]]) 3 11 8 rfl (by decide) (by kernel_rfl) ?_
  refine a_on 3 rfl (by kernel_rfl) 10 rfl rfl (fun w_ h_ => o_fieldAddr (k := 0) (fun _ => by kernel_rfl) rfl ⟨rfl, rfl⟩) ?_
  refine a_on 4 rfl (by kernel_rfl) 10 rfl rfl (fun w_ h_ => o_load1 (v := (.int .i64 pl)) Tryz.underlying3 rfl rfl h_ (seg_sub 0 rfl) (CellsAt.one rfl) ⟨rfl, rfl⟩) ?_
  refine a_on 5 rfl (by kernel_rfl) 10 rfl rfl (fun w_ h_ => o_move (v := (.pointer (some ⟨mb, 0, none⟩))) rfl ⟨rfl, rfl⟩) ?_
  refine a_on 6 rfl (by kernel_rfl) 10 rfl rfl (fun w_ h_ => o_nilCheck rfl ⟨rfl, rfl⟩) ?_
  refine a_on 7 rfl (by kernel_rfl) 10 rfl rfl (fun w_ h_ => o_fieldAddr (k := 0) (fun _ => by kernel_rfl) rfl ⟨rfl, rfl⟩) ?_
  refine a_on 8 rfl (by kernel_rfl) 10 rfl rfl (fun w_ h_ => o_fieldAddr (k := 0) (fun _ => by kernel_rfl) rfl ⟨rfl, rfl⟩) ?_
  refine a_on 9 rfl (by kernel_rfl) 10 rfl rfl (fun w_ h_ => o_fieldAddr (k := 0) (fun _ => by kernel_rfl) rfl ⟨rfl, rfl⟩) ?_
  refine a_on 10 rfl (by kernel_rfl) 10 rfl rfl (fun w_ h_ => o_load1 (v := (.int .i64 h.st)) Tryz.underlying3 rfl rfl h_ (seg_sub 1 rfl) (CellsAt.one rfl) ⟨rfl, rfl⟩) ?_
  have hH8 : Has E { w3 with drawn := w3.drawn + 1 } [[Hp.one b2 (.cells #[(.int .i64 pl), (.int .i64 pn)] 50 (0, 0))], [Hp.one mb (.cells #[(.int .i64 h.st), (.int .i64 h.cut), (.int .i64 h.seq), (.int .i64 h.ep), (.int .i64 h.cut), (.int .i64 h.st), (.int .i64 h.mrk), (.pointer (some ⟨db, 0, none⟩))] 95 (0, 0))]] := ((hH7.front 3 rfl).front 1 rfl).first 2 rfl
  refine a_done (by kernel_rfl) hH8 ?_
  refine r_on 11 rfl (by kernel_rfl) 10 rfl rfl (o_lss (a := pl) (b := h.st) rfl rfl ?_)
  refine r_op 12 rfl (by kernel_rfl) (o_pick_f (u := (.bool (decide (pl < h.st)))) rfl rfl ?_)
  refine r_op 13 rfl (by kernel_rfl) (o_move (v := (.bool (decide (pl < h.st)))) rfl ?_)
  refine Rest.phaseA (fun w_ => Has E w_ [[Hp.one b2 (.cells #[(.int .i64 pl), (.int .i64 pn)] 50 (0, 0))], [Hp.one mb (.cells #[(.int .i64 h.st), (.int .i64 h.cut), (.int .i64 h.seq), (.int .i64 h.ep), (.int .i64 h.cut), (.int .i64 h.st), (.int .i64 h.mrk), (.pointer (some ⟨db, 0, none⟩))] 95 (0, 0))]]) 14 22 8 rfl (by decide) (by kernel_rfl) ?_
  by_cases h9 : pl < h.st
  · -- pl < h.st
    exfalso; omega
  · -- not: pl < h.st
    refine a_on 14 rfl (by kernel_rfl) 21 rfl (congrArg Value.bool (decide_eq_false h9)) (fun w_ h_ => o_fieldAddr (k := 1) (fun _ => by kernel_rfl) rfl ⟨rfl, rfl⟩) ?_
    refine a_on 15 rfl (by kernel_rfl) 21 rfl (congrArg Value.bool (decide_eq_false h9)) (fun w_ h_ => o_load1 (v := (.int .i64 pn)) Tryz.underlying3 rfl rfl h_ (seg_sub 0 rfl) (CellsAt.one rfl) ⟨rfl, rfl⟩) ?_
    refine a_on 16 rfl (by kernel_rfl) 21 rfl (congrArg Value.bool (decide_eq_false h9)) (fun w_ h_ => o_move (v := (.pointer (some ⟨mb, 0, none⟩))) rfl ⟨rfl, rfl⟩) ?_
    refine a_on 17 rfl (by kernel_rfl) 21 rfl (congrArg Value.bool (decide_eq_false h9)) (fun w_ h_ => o_nilCheck rfl ⟨rfl, rfl⟩) ?_
    refine a_on 18 rfl (by kernel_rfl) 21 rfl (congrArg Value.bool (decide_eq_false h9)) (fun w_ h_ => o_fieldAddr (k := 0) (fun _ => by kernel_rfl) rfl ⟨rfl, rfl⟩) ?_
    refine a_on 19 rfl (by kernel_rfl) 21 rfl (congrArg Value.bool (decide_eq_false h9)) (fun w_ h_ => o_fieldAddr (k := 0) (fun _ => by kernel_rfl) rfl ⟨rfl, rfl⟩) ?_
    refine a_on 20 rfl (by kernel_rfl) 21 rfl (congrArg Value.bool (decide_eq_false h9)) (fun w_ h_ => o_fieldAddr (k := 1) (fun _ => by kernel_rfl) rfl ⟨rfl, rfl⟩) ?_
    refine a_on 21 rfl (by kernel_rfl) 21 rfl (congrArg Value.bool (decide_eq_false h9)) (fun w_ h_ => o_load1 (v := (.int .i64 h.cut)) Tryz.underlying3 rfl rfl h_ (seg_sub 1 rfl) (CellsAt.one rfl) ⟨rfl, rfl⟩) ?_
    have hH10 : Has E { w3 with drawn := w3.drawn + 1 } [[Hp.one b2 (.cells #[(.int .i64 pl), (.int .i64 pn)] 50 (0, 0))], [Hp.one mb (.cells #[(.int .i64 h.st), (.int .i64 h.cut), (.int .i64 h.seq), (.int .i64 h.ep), (.int .i64 h.cut), (.int .i64 h.st), (.int .i64 h.mrk), (.pointer (some ⟨db, 0, none⟩))] 95 (0, 0))]] := ((hH7.front 3 rfl).front 1 rfl).first 2 rfl
    refine a_done (by kernel_rfl) hH10 ?_
    refine r_on 22 rfl (by kernel_rfl) 21 rfl (congrArg Value.bool (decide_eq_false h9)) (o_lss (a := pn) (b := h.cut) rfl rfl ?_)
    refine r_op 23 rfl (by kernel_rfl) (o_pick_f (u := (.bool (decide (pn < h.cut)))) ((rfl : _ = _).trans (congrArg Value.bool (decide_eq_false h9))) rfl ?_)
    refine r_op 24 rfl (by kernel_rfl) (o_assign (v := (.bool (decide (pn < h.cut)))) rfl ?_)
    refine Rest.done (by kernel_rfl) ?_
    refine t_norm (hK6 _ _ ?_)
    refine c_cond rfl (fun h11 => ?_) (fun h11 => ?_)
    · -- pn < h.cut
      exfalso; omega
    · -- not: pn < h.cut
      refine wp_seq_k fun K12 hK12 => ?_
      refine Rest.region mixed (by kernel_rfl) ?_
      have hH13 : Has E { { w3 with drawn := w3.drawn + 1 } with drawn := { w3 with drawn := w3.drawn + 1 }.drawn + 1 } [[Hp.one b2 (.cells #[(.int .i64 pl), (.int .i64 pn)] 50 (0, 0))], sg, [Hp.one pb (.cells #[(.bool p.off), (.bool p.armed), (.int .i64 p.left), (.int .i64 p.uses)] 78 (0, 0))], [Hp.one mb (.cells #[(.int .i64 h.st), (.int .i64 h.cut), (.int .i64 h.seq), (.int .i64 h.ep), (.int .i64 h.cut), (.int .i64 h.st), (.int .i64 h.mrk), (.pointer (some ⟨db, 0, none⟩))] 95 (0, 0))], R] := Has0.drew hH7 _
      refine Rest.phaseA (fun w_ => Has E w_ [[Hp.one b2 (.cells #[(.int .i64 pl), (.int .i64 pn)] 50 (0, 0))], [Hp.one mb (.cells #[(.int .i64 h.st), (.int .i64 h.cut), (.int .i64 h.seq), (.int .i64 h.ep), (.int .i64 h.cut), (.int .i64 h.st), (.int .i64 h.mrk), (.pointer (some ⟨db, 0, none⟩))] 95 (0, 0))]]) 0 6 6 rfl (by decide) (by kernel_rfl) ?_
      refine a_op 0 rfl (by kernel_rfl) (fun w_ h_ => o_loadN (cs := [(.int .i64 pl), (.int .i64 pn)]) Tryz.underlying50 rfl ti50 rfl h_ (seg_sub 0 rfl) (CellsAt.one rfl) ⟨rfl, rfl⟩) ?_
      refine a_op 1 rfl (by kernel_rfl) (fun w_ h_ => o_move (v := (.pointer (some ⟨mb, 0, none⟩))) rfl ⟨rfl, rfl⟩) ?_
      refine a_op 2 rfl (by kernel_rfl) (fun w_ h_ => o_nilCheck rfl ⟨rfl, rfl⟩) ?_
      refine a_op 3 rfl (by kernel_rfl) (fun w_ h_ => o_fieldAddr (k := 0) (fun _ => by kernel_rfl) rfl ⟨rfl, rfl⟩) ?_
      refine a_op 4 rfl (by kernel_rfl) (fun w_ h_ => o_fieldAddr (k := 0) (fun _ => by kernel_rfl) rfl ⟨rfl, rfl⟩) ?_
      refine a_op 5 rfl (by kernel_rfl) (fun w_ h_ => o_loadN (cs := [(.int .i64 h.st), (.int .i64 h.cut)]) Tryz.underlying50 rfl ti50 rfl h_ (seg_sub 1 rfl) (CellsAt.one rfl) ⟨rfl, rfl⟩) ?_
      have hH14 : Has E { { w3 with drawn := w3.drawn + 1 } with drawn := { w3 with drawn := w3.drawn + 1 }.drawn + 1 } [[Hp.one b2 (.cells #[(.int .i64 pl), (.int .i64 pn)] 50 (0, 0))], [Hp.one mb (.cells #[(.int .i64 h.st), (.int .i64 h.cut), (.int .i64 h.seq), (.int .i64 h.ep), (.int .i64 h.cut), (.int .i64 h.st), (.int .i64 h.mrk), (.pointer (some ⟨db, 0, none⟩))] 95 (0, 0))]] := ((hH13.front 3 rfl).front 1 rfl).first 2 rfl
      refine a_done (by kernel_rfl) hH14 ?_
      refine r_op 6 rfl (by kernel_rfl) (o_eql50 pl pn h.st h.cut rfl rfl ?_)
      refine r_op 7 rfl (by kernel_rfl) (o_assign (v := (.bool (eqv50 pl pn h.st h.cut))) rfl ?_)
      refine Rest.done (by kernel_rfl) ?_
      refine t_norm (hK12 _ _ ?_)
      refine c_condb rfl (fun h15 => ?_) (fun h15 => ?_)
      · -- eqv50 pl pn h.st h.cut
        exact absurd ((eqv50_iff _ _ _ _).1 h15) hne
      · -- not: eqv50 pl pn h.st h.cut
        refine wp_skip ?_
        refine b_norm ?_
        refine t_norm (hK5 _ _ ?_)
        refine wp_seq_k fun K16 hK16 => ?_
        refine Rest.region mixed (by kernel_rfl) ?_
        have hH17 : Has E { { { w3 with drawn := w3.drawn + 1 } with drawn := { w3 with drawn := w3.drawn + 1 }.drawn + 1 } with drawn := { { w3 with drawn := w3.drawn + 1 } with drawn := { w3 with drawn := w3.drawn + 1 }.drawn + 1 }.drawn + 1 } [[Hp.one b2 (.cells #[(.int .i64 pl), (.int .i64 pn)] 50 (0, 0))], sg, [Hp.one pb (.cells #[(.bool p.off), (.bool p.armed), (.int .i64 p.left), (.int .i64 p.uses)] 78 (0, 0))], [Hp.one mb (.cells #[(.int .i64 h.st), (.int .i64 h.cut), (.int .i64 h.seq), (.int .i64 h.ep), (.int .i64 h.cut), (.int .i64 h.st), (.int .i64 h.mrk), (.pointer (some ⟨db, 0, none⟩))] 95 (0, 0))], R] := Has0.drew hH13 _
        refine Rest.phaseA (fun w_ => Has E w_ [[Hp.one b2 (.cells #[(.int .i64 pl), (.int .i64 pn)] 50 (0, 0))], [Hp.one mb (.cells #[(.int .i64 h.st), (.int .i64 h.cut), (.int .i64 h.seq), (.int .i64 h.ep), (.int .i64 h.cut), (.int .i64 h.st), (.int .i64 h.mrk), (.pointer (some ⟨db, 0, none⟩))] 95 (0, 0))]]) 0 21 21 rfl (by decide) (by kernel_rfl) ?_
        refine a_op 0 rfl (by kernel_rfl) (fun w_ h_ => o_move (v := (.pointer (some ⟨mb, 0, none⟩))) rfl ⟨rfl, rfl⟩) ?_
        refine a_op 1 rfl (by kernel_rfl) (fun w_ h_ => o_nilCheck rfl ⟨rfl, rfl⟩) ?_
        refine a_op 2 rfl (by kernel_rfl) (fun w_ h_ => o_fieldAddr (k := 7) (fun _ => by kernel_rfl) rfl ⟨rfl, rfl⟩) ?_
        refine a_op 3 rfl (by kernel_rfl) (fun w_ h_ => o_load1 (v := (.pointer (some ⟨db, 0, none⟩))) Tryz.underlying34 rfl rfl h_ (seg_sub 1 rfl) (CellsAt.one rfl) ⟨rfl, rfl⟩) ?_
        refine a_op 4 rfl (by kernel_rfl) (fun w_ h_ => o_move (v := (.pointer (some ⟨mb, 0, none⟩))) rfl ⟨rfl, rfl⟩) ?_
        refine a_op 5 rfl (by kernel_rfl) (fun w_ h_ => o_nilCheck rfl ⟨rfl, rfl⟩) ?_
        refine a_op 6 rfl (by kernel_rfl) (fun w_ h_ => o_fieldAddr (k := 0) (fun _ => by kernel_rfl) rfl ⟨rfl, rfl⟩) ?_
        refine a_op 7 rfl (by kernel_rfl) (fun w_ h_ => o_fieldAddr (k := 2) (fun _ => by kernel_rfl) rfl ⟨rfl, rfl⟩) ?_
        refine a_op 8 rfl (by kernel_rfl) (fun w_ h_ => o_fieldAddr (k := 2) (fun _ => by kernel_rfl) rfl ⟨rfl, rfl⟩) ?_
        refine a_op 9 rfl (by kernel_rfl) (fun w_ h_ => o_load1 (v := (.int .i64 h.seq)) Tryz.underlying3 rfl rfl h_ (seg_sub 1 rfl) (CellsAt.one rfl) ⟨rfl, rfl⟩) ?_
        refine a_op 10 rfl (by kernel_rfl) (fun w_ h_ => o_fieldAddr (k := 0) (fun _ => by kernel_rfl) rfl ⟨rfl, rfl⟩) ?_
        refine a_op 11 rfl (by kernel_rfl) (fun w_ h_ => o_load1 (v := (.int .i64 pl)) Tryz.underlying3 rfl rfl h_ (seg_sub 0 rfl) (CellsAt.one rfl) ⟨rfl, rfl⟩) ?_
        refine a_op 12 rfl (by kernel_rfl) (fun w_ h_ => o_fieldAddr (k := 1) (fun _ => by kernel_rfl) rfl ⟨rfl, rfl⟩) ?_
        refine a_op 13 rfl (by kernel_rfl) (fun w_ h_ => o_load1 (v := (.int .i64 pn)) Tryz.underlying3 rfl rfl h_ (seg_sub 0 rfl) (CellsAt.one rfl) ⟨rfl, rfl⟩) ?_
        refine a_op 14 rfl (by kernel_rfl) (fun w_ h_ => o_sight (v := (.agg #[(.int .i64 h.seq), (.int .i64 0), (.int .i64 pn), (.int .i64 pl), (.int .i64 0)])) (fun _ => by kernel_rfl) ⟨rfl, rfl⟩) ?_
        have hH18 : Has E { { { w3 with drawn := w3.drawn + 1 } with drawn := { w3 with drawn := w3.drawn + 1 }.drawn + 1 } with drawn := { { w3 with drawn := w3.drawn + 1 } with drawn := { w3 with drawn := w3.drawn + 1 }.drawn + 1 }.drawn + 1 } [[Hp.one b2 (.cells #[(.int .i64 pl), (.int .i64 pn)] 50 (0, 0))], [Hp.one mb (.cells #[(.int .i64 h.st), (.int .i64 h.cut), (.int .i64 h.seq), (.int .i64 h.ep), (.int .i64 h.cut), (.int .i64 h.st), (.int .i64 h.mrk), (.pointer (some ⟨db, 0, none⟩))] 95 (0, 0))]] := ((hH17.front 3 rfl).front 1 rfl).first 2 rfl
        refine a_two 15 19 (by kernel_rfl) hH18 ?_ ?_
        · -- first operation 15
          have hH19 : Has E { { { w3 with drawn := w3.drawn + 1 } with drawn := { w3 with drawn := w3.drawn + 1 }.drawn + 1 } with drawn := { { w3 with drawn := w3.drawn + 1 } with drawn := { w3 with drawn := w3.drawn + 1 }.drawn + 1 }.drawn + 1 } [[Hp.one b2 (.cells #[(.int .i64 pl), (.int .i64 pn)] 50 (0, 0))], [Hp.one mb (.cells #[(.int .i64 h.st), (.int .i64 h.cut), (.int .i64 h.seq), (.int .i64 h.ep), (.int .i64 h.cut), (.int .i64 h.st), (.int .i64 h.mrk), (.pointer (some ⟨db, 0, none⟩))] 95 (0, 0))]] := ((hH17.front 3 rfl).front 1 rfl).first 2 rfl
          refine ok_w 15 rfl (o_callf (vs := #[(.pointer (some ⟨db, 0, none⟩)), (.int .i64 0), (.agg #[(.int .i64 h.seq), (.int .i64 0), (.int .i64 pn), (.int .i64 pl), (.int .i64 0)])]) ca26 rfl (args3 rfl rfl rfl) (hsave_ok (p := p) (la := la) ((hH17.front 2 rfl).front 2 rfl).all2 hd (hg.mono (seg_sub 2 rfl)) hp hq hla (x := 0) (h := (Hd.mk h.seq 0 pn pl 0)) hT hb hb2) ?_)
          rintro _ w24 ⟨sg20, rfl, hd21, hX22⟩
          refine ⟨_, rfl, ?_⟩
          have hH23 : Has E w24 [sg20, [Hp.one pb (.cells #[(.bool (useS (useS p)).off), (.bool (useS (useS p)).armed), (.int .i64 (useS (useS p)).left), (.int .i64 (useS (useS p)).uses)] 78 (0, 0))], [Hp.one b2 (.cells #[(.int .i64 pl), (.int .i64 pn)] 50 (0, 0))], [Hp.one mb (.cells #[(.int .i64 h.st), (.int .i64 h.cut), (.int .i64 h.seq), (.int .i64 h.ep), (.int .i64 h.cut), (.int .i64 h.st), (.int .i64 h.mrk), (.pointer (some ⟨db, 0, none⟩))] 95 (0, 0))], R] := hX22.of_all2
          refine a_op 16 rfl (by kernel_rfl) (fun w_ h_ => o_move (v := (.tuple #[(.agg #[(.int .i64 (hdUp (Hd.mk h.seq 0 pn pl 0)).seq), (.int .i64 (hdUp (Hd.mk h.seq 0 pn pl 0)).ep), (.int .i64 (hdUp (Hd.mk h.seq 0 pn pl 0)).cut), (.int .i64 (hdUp (Hd.mk h.seq 0 pn pl 0)).st), (.int .i64 (hdUp (Hd.mk h.seq 0 pn pl 0)).mrk)]), (.int .i64 (0 : Int))])) rfl ⟨rfl, rfl⟩) ?_
          refine a_op 17 rfl (by kernel_rfl) (fun w_ h_ => o_extract (v := (.agg #[(.int .i64 (hdUp (Hd.mk h.seq 0 pn pl 0)).seq), (.int .i64 (hdUp (Hd.mk h.seq 0 pn pl 0)).ep), (.int .i64 (hdUp (Hd.mk h.seq 0 pn pl 0)).cut), (.int .i64 (hdUp (Hd.mk h.seq 0 pn pl 0)).st), (.int .i64 (hdUp (Hd.mk h.seq 0 pn pl 0)).mrk)])) rfl rfl ⟨rfl, rfl⟩) ?_
          refine a_op 18 rfl (by kernel_rfl) (fun w_ h_ => o_extract (v := (.int .i64 (0 : Int))) rfl rfl ⟨rfl, rfl⟩) ?_
          have hH25 : Has E w24 [[Hp.one b2 (.cells #[(.int .i64 pl), (.int .i64 pn)] 50 (0, 0))], [Hp.one mb (.cells #[(.int .i64 h.st), (.int .i64 h.cut), (.int .i64 h.seq), (.int .i64 h.ep), (.int .i64 h.cut), (.int .i64 h.st), (.int .i64 h.mrk), (.pointer (some ⟨db, 0, none⟩))] 95 (0, 0))]] := ((hH23.front 3 rfl).front 3 rfl).first 2 rfl
          refine a_w 19 rfl (by kernel_rfl) hH25 (o_alloc (cs := #[(.int .i64 0), (.int .i64 0), (.int .i64 0), (.int .i64 0), (.int .i64 0)]) ti27 rfl hH23 fun b26 w27 hH28 => ?_)
          have hH29 : Has E w27 [[Hp.one b2 (.cells #[(.int .i64 pl), (.int .i64 pn)] 50 (0, 0))], [Hp.one mb (.cells #[(.int .i64 h.st), (.int .i64 h.cut), (.int .i64 h.seq), (.int .i64 h.ep), (.int .i64 h.cut), (.int .i64 h.st), (.int .i64 h.mrk), (.pointer (some ⟨db, 0, none⟩))] 95 (0, 0))]] := ((hH28.front 4 rfl).front 4 rfl).first 2 rfl
          refine a_we 20 rfl (by kernel_rfl) hH29 (o_storeN (vs := [(.int .i64 (hdUp (Hd.mk h.seq 0 pn pl 0)).seq), (.int .i64 (hdUp (Hd.mk h.seq 0 pn pl 0)).ep), (.int .i64 (hdUp (Hd.mk h.seq 0 pn pl 0)).cut), (.int .i64 (hdUp (Hd.mk h.seq 0 pn pl 0)).st), (.int .i64 (hdUp (Hd.mk h.seq 0 pn pl 0)).mrk)]) (c' := #[(.int .i64 (hdUp (Hd.mk h.seq 0 pn pl 0)).seq), (.int .i64 (hdUp (Hd.mk h.seq 0 pn pl 0)).ep), (.int .i64 (hdUp (Hd.mk h.seq 0 pn pl 0)).cut), (.int .i64 (hdUp (Hd.mk h.seq 0 pn pl 0)).st), (.int .i64 (hdUp (Hd.mk h.seq 0 pn pl 0)).mrk)]) ti27 rfl rfl rfl rfl (by intro u hu; simp only [List.mem_cons, List.not_mem_nil, or_false] at hu; rcases hu with rfl | rfl | rfl | rfl | rfl <;> first | rfl) (by simp) (by kernel_rfl) (hH28.front 0 rfl) fun w30 hH31 => ?_)
          have hH32 : Has E w30 [[Hp.one b2 (.cells #[(.int .i64 pl), (.int .i64 pn)] 50 (0, 0))], [Hp.one mb (.cells #[(.int .i64 h.st), (.int .i64 h.cut), (.int .i64 h.seq), (.int .i64 h.ep), (.int .i64 h.cut), (.int .i64 h.st), (.int .i64 h.mrk), (.pointer (some ⟨db, 0, none⟩))] 95 (0, 0))]] := ((hH31.front 4 rfl).front 4 rfl).first 2 rfl
          refine a_done (by kernel_rfl) hH32 ?_
          refine r_op 21 rfl (by kernel_rfl) (o_assign (v := (.int .i64 (0 : Int))) rfl ?_)
          refine Rest.done (by kernel_rfl) ?_
          refine t_norm (hK16 _ _ ?_)
          refine wp_seq_k fun K33 hK33 => ?_
          refine wp_seq_k fun K34 hK34 => ?_
          refine c_region ?_
          refine s_op (o_move (v := (.int .i64 (0 : Int))) rfl ?_)
          refine s_op (o_eql (a := (0 : Int)) (b := 0) rfl rfl ?_)
          refine s_nil ?_
          refine t_norm (hK34 _ _ ?_)
          refine c_cond rfl (fun h35 => ?_) (fun h35 => ?_)
          · -- (0 : Int) = 0
            refine c_region ?_
            refine s_op (o_move (v := (.pointer (some ⟨mb, 0, none⟩))) rfl ?_)
            refine s_op (o_loadN (cs := [(.int .i64 pl), (.int .i64 pn)]) Tryz.underlying50 rfl ti50 rfl hH31 (seg_sub 3 rfl) (CellsAt.one rfl) ?_)
            refine s_op (o_loadN (cs := [(.int .i64 (hdUp (Hd.mk h.seq 0 pn pl 0)).seq), (.int .i64 (hdUp (Hd.mk h.seq 0 pn pl 0)).ep), (.int .i64 (hdUp (Hd.mk h.seq 0 pn pl 0)).cut), (.int .i64 (hdUp (Hd.mk h.seq 0 pn pl 0)).st), (.int .i64 (hdUp (Hd.mk h.seq 0 pn pl 0)).mrk)]) Tryz.underlying27 rfl ti27 rfl hH31 (seg_sub 0 rfl) (CellsAt.one rfl) ?_)
            refine s_op (o_sight (v := (.agg #[(.int .i64 pl), (.int .i64 pn), (.int .i64 (hdUp (Hd.mk h.seq 0 pn pl 0)).seq), (.int .i64 (hdUp (Hd.mk h.seq 0 pn pl 0)).ep), (.int .i64 (hdUp (Hd.mk h.seq 0 pn pl 0)).cut), (.int .i64 (hdUp (Hd.mk h.seq 0 pn pl 0)).st), (.int .i64 (hdUp (Hd.mk h.seq 0 pn pl 0)).mrk)])) (fun _ => by kernel_rfl) ?_)
            refine s_op (o_nilCheck rfl ?_)
            refine s_op (o_fieldAddr (k := 0) (fun _ => by kernel_rfl) rfl ?_)
            refine s_eff (o_storeN (vs := [(.int .i64 pl), (.int .i64 pn), (.int .i64 (hdUp (Hd.mk h.seq 0 pn pl 0)).seq), (.int .i64 (hdUp (Hd.mk h.seq 0 pn pl 0)).ep), (.int .i64 (hdUp (Hd.mk h.seq 0 pn pl 0)).cut), (.int .i64 (hdUp (Hd.mk h.seq 0 pn pl 0)).st), (.int .i64 (hdUp (Hd.mk h.seq 0 pn pl 0)).mrk)]) (c' := #[(.int .i64 pl), (.int .i64 pn), (.int .i64 (hdUp (Hd.mk h.seq 0 pn pl 0)).seq), (.int .i64 (hdUp (Hd.mk h.seq 0 pn pl 0)).ep), (.int .i64 (hdUp (Hd.mk h.seq 0 pn pl 0)).cut), (.int .i64 (hdUp (Hd.mk h.seq 0 pn pl 0)).st), (.int .i64 (hdUp (Hd.mk h.seq 0 pn pl 0)).mrk), (.pointer (some ⟨db, 0, none⟩))]) ti93 rfl rfl rfl rfl (by intro u hu; simp only [List.mem_cons, List.not_mem_nil, or_false] at hu; rcases hu with rfl | rfl | rfl | rfl | rfl | rfl | rfl <;> first | rfl) (by simp) (by kernel_rfl) (hH31.front 4 rfl) fun w36 hH37 => ?_)
            refine s_nil ?_
            refine t_norm (hK33 _ _ ?_)
            refine wp_seq_k fun K38 hK38 => ?_
            refine c_region ?_
            refine s_op (o_move (v := (.int .i64 (0 : Int))) rfl ?_)
            refine s_op (o_assign (v := (.int .i64 (0 : Int))) rfl ?_)
            refine s_nil ?_
            refine t_norm (hK38 _ _ ?_)
            refine wp_ret ?_
            refine c_ret1 Tryz.results24  (v := (.int .i64 (0 : Int))) rfl ?_
            have hH39 : Has E w36 [[Hp.one mb (.cells #[(.int .i64 (hdUp (hdK h pl pn)).st), (.int .i64 (hdUp (hdK h pl pn)).cut), (.int .i64 (hdUp (hdK h pl pn)).seq), (.int .i64 (hdUp (hdK h pl pn)).ep), (.int .i64 (hdUp (hdK h pl pn)).cut), (.int .i64 (hdUp (hdK h pl pn)).st), (.int .i64 (hdUp (hdK h pl pn)).mrk), (.pointer (some ⟨db, 0, none⟩))] 95 (0, 0))], [Hp.one b26 (.cells #[(.int .i64 (hdUp (Hd.mk h.seq 0 pn pl 0)).seq), (.int .i64 (hdUp (Hd.mk h.seq 0 pn pl 0)).ep), (.int .i64 (hdUp (Hd.mk h.seq 0 pn pl 0)).cut), (.int .i64 (hdUp (Hd.mk h.seq 0 pn pl 0)).st), (.int .i64 (hdUp (Hd.mk h.seq 0 pn pl 0)).mrk)] 27 (0, 0))], sg20, [Hp.one pb (.cells #[(.bool (useS (useS p)).off), (.bool (useS (useS p)).armed), (.int .i64 (useS (useS p)).left), (.int .i64 (useS (useS p)).uses)] 78 (0, 0))], [Hp.one b2 (.cells #[(.int .i64 pl), (.int .i64 pn)] 50 (0, 0))], R] := hH37
            have hH40 : Has E w36 [sg20, [Hp.one pb (.cells #[(.bool (useS (useS p)).off), (.bool (useS (useS p)).armed), (.int .i64 (useS (useS p)).left), (.int .i64 (useS (useS p)).uses)] 78 (0, 0))], [Hp.one mb (.cells #[(.int .i64 (hdUp (hdK h pl pn)).st), (.int .i64 (hdUp (hdK h pl pn)).cut), (.int .i64 (hdUp (hdK h pl pn)).seq), (.int .i64 (hdUp (hdK h pl pn)).ep), (.int .i64 (hdUp (hdK h pl pn)).cut), (.int .i64 (hdUp (hdK h pl pn)).st), (.int .i64 (hdUp (hdK h pl pn)).mrk), (.pointer (some ⟨db, 0, none⟩))] 95 (0, 0))], R] := ((((hH39.front 5 rfl).front 1 rfl).front 4 rfl).front 4 rfl).first 4 rfl
            exact ⟨_, rfl, hd21, hH40⟩
          · -- not: (0 : Int) = 0
            exact absurd rfl h35
        · -- first operation 19
          have hH41 : Has E { { { w3 with drawn := w3.drawn + 1 } with drawn := { w3 with drawn := w3.drawn + 1 }.drawn + 1 } with drawn := { { w3 with drawn := w3.drawn + 1 } with drawn := { w3 with drawn := w3.drawn + 1 }.drawn + 1 }.drawn + 1 } [[Hp.one b2 (.cells #[(.int .i64 pl), (.int .i64 pn)] 50 (0, 0))], [Hp.one mb (.cells #[(.int .i64 h.st), (.int .i64 h.cut), (.int .i64 h.seq), (.int .i64 h.ep), (.int .i64 h.cut), (.int .i64 h.st), (.int .i64 h.mrk), (.pointer (some ⟨db, 0, none⟩))] 95 (0, 0))]] := ((hH17.front 3 rfl).front 1 rfl).first 2 rfl
          refine ok_w 19 rfl (o_alloc (cs := #[(.int .i64 0), (.int .i64 0), (.int .i64 0), (.int .i64 0), (.int .i64 0)]) ti27 rfl hH17 fun b42 w43 hH44 => ?_)
          have hH45 : Has E w43 [[Hp.one b2 (.cells #[(.int .i64 pl), (.int .i64 pn)] 50 (0, 0))], [Hp.one mb (.cells #[(.int .i64 h.st), (.int .i64 h.cut), (.int .i64 h.seq), (.int .i64 h.ep), (.int .i64 h.cut), (.int .i64 h.st), (.int .i64 h.mrk), (.pointer (some ⟨db, 0, none⟩))] 95 (0, 0))]] := ((hH44.front 4 rfl).front 2 rfl).first 2 rfl
          refine a_w 15 rfl (by kernel_rfl) hH45 (o_callf (vs := #[(.pointer (some ⟨db, 0, none⟩)), (.int .i64 0), (.agg #[(.int .i64 h.seq), (.int .i64 0), (.int .i64 pn), (.int .i64 pl), (.int .i64 0)])]) ca26 rfl (args3 rfl rfl rfl) (hsave_ok (p := p) (la := la) ((hH44.front 3 rfl).front 3 rfl).all2 hd (hg.mono (seg_sub 3 rfl)) hp hq hla (x := 0) (h := (Hd.mk h.seq 0 pn pl 0)) hT hb hb2) ?_)
          rintro _ w50 ⟨sg46, rfl, hd47, hX48⟩
          refine ⟨_, rfl, ?_⟩
          have hH49 : Has E w50 [sg46, [Hp.one pb (.cells #[(.bool (useS (useS p)).off), (.bool (useS (useS p)).armed), (.int .i64 (useS (useS p)).left), (.int .i64 (useS (useS p)).uses)] 78 (0, 0))], [Hp.one b42 (.cells #[(.int .i64 0), (.int .i64 0), (.int .i64 0), (.int .i64 0), (.int .i64 0)] 27 (0, 0))], [Hp.one b2 (.cells #[(.int .i64 pl), (.int .i64 pn)] 50 (0, 0))], [Hp.one mb (.cells #[(.int .i64 h.st), (.int .i64 h.cut), (.int .i64 h.seq), (.int .i64 h.ep), (.int .i64 h.cut), (.int .i64 h.st), (.int .i64 h.mrk), (.pointer (some ⟨db, 0, none⟩))] 95 (0, 0))], R] := hX48.of_all2
          refine a_op 16 rfl (by kernel_rfl) (fun w_ h_ => o_move (v := (.tuple #[(.agg #[(.int .i64 (hdUp (Hd.mk h.seq 0 pn pl 0)).seq), (.int .i64 (hdUp (Hd.mk h.seq 0 pn pl 0)).ep), (.int .i64 (hdUp (Hd.mk h.seq 0 pn pl 0)).cut), (.int .i64 (hdUp (Hd.mk h.seq 0 pn pl 0)).st), (.int .i64 (hdUp (Hd.mk h.seq 0 pn pl 0)).mrk)]), (.int .i64 (0 : Int))])) rfl ⟨rfl, rfl⟩) ?_
          refine a_op 17 rfl (by kernel_rfl) (fun w_ h_ => o_extract (v := (.agg #[(.int .i64 (hdUp (Hd.mk h.seq 0 pn pl 0)).seq), (.int .i64 (hdUp (Hd.mk h.seq 0 pn pl 0)).ep), (.int .i64 (hdUp (Hd.mk h.seq 0 pn pl 0)).cut), (.int .i64 (hdUp (Hd.mk h.seq 0 pn pl 0)).st), (.int .i64 (hdUp (Hd.mk h.seq 0 pn pl 0)).mrk)])) rfl rfl ⟨rfl, rfl⟩) ?_
          refine a_op 18 rfl (by kernel_rfl) (fun w_ h_ => o_extract (v := (.int .i64 (0 : Int))) rfl rfl ⟨rfl, rfl⟩) ?_
          have hH51 : Has E w50 [[Hp.one b2 (.cells #[(.int .i64 pl), (.int .i64 pn)] 50 (0, 0))], [Hp.one mb (.cells #[(.int .i64 h.st), (.int .i64 h.cut), (.int .i64 h.seq), (.int .i64 h.ep), (.int .i64 h.cut), (.int .i64 h.st), (.int .i64 h.mrk), (.pointer (some ⟨db, 0, none⟩))] 95 (0, 0))]] := ((hH49.front 4 rfl).front 4 rfl).first 2 rfl
          refine a_we 20 rfl (by kernel_rfl) hH51 (o_storeN (vs := [(.int .i64 (hdUp (Hd.mk h.seq 0 pn pl 0)).seq), (.int .i64 (hdUp (Hd.mk h.seq 0 pn pl 0)).ep), (.int .i64 (hdUp (Hd.mk h.seq 0 pn pl 0)).cut), (.int .i64 (hdUp (Hd.mk h.seq 0 pn pl 0)).st), (.int .i64 (hdUp (Hd.mk h.seq 0 pn pl 0)).mrk)]) (c' := #[(.int .i64 (hdUp (Hd.mk h.seq 0 pn pl 0)).seq), (.int .i64 (hdUp (Hd.mk h.seq 0 pn pl 0)).ep), (.int .i64 (hdUp (Hd.mk h.seq 0 pn pl 0)).cut), (.int .i64 (hdUp (Hd.mk h.seq 0 pn pl 0)).st), (.int .i64 (hdUp (Hd.mk h.seq 0 pn pl 0)).mrk)]) ti27 rfl rfl rfl rfl (by intro u hu; simp only [List.mem_cons, List.not_mem_nil, or_false] at hu; rcases hu with rfl | rfl | rfl | rfl | rfl <;> first | rfl) (by simp) (by kernel_rfl) (hH49.front 2 rfl) fun w52 hH53 => ?_)
          have hH54 : Has E w52 [[Hp.one b2 (.cells #[(.int .i64 pl), (.int .i64 pn)] 50 (0, 0))], [Hp.one mb (.cells #[(.int .i64 h.st), (.int .i64 h.cut), (.int .i64 h.seq), (.int .i64 h.ep), (.int .i64 h.cut), (.int .i64 h.st), (.int .i64 h.mrk), (.pointer (some ⟨db, 0, none⟩))] 95 (0, 0))]] := ((hH53.front 4 rfl).front 4 rfl).first 2 rfl
          refine a_done (by kernel_rfl) hH54 ?_
          refine r_op 21 rfl (by kernel_rfl) (o_assign (v := (.int .i64 (0 : Int))) rfl ?_)
          refine Rest.done (by kernel_rfl) ?_
          refine t_norm (hK16 _ _ ?_)
          refine wp_seq_k fun K55 hK55 => ?_
          refine wp_seq_k fun K56 hK56 => ?_
          refine c_region ?_
          refine s_op (o_move (v := (.int .i64 (0 : Int))) rfl ?_)
          refine s_op (o_eql (a := (0 : Int)) (b := 0) rfl rfl ?_)
          refine s_nil ?_
          refine t_norm (hK56 _ _ ?_)
          refine c_cond rfl (fun h57 => ?_) (fun h57 => ?_)
          · -- (0 : Int) = 0
            refine c_region ?_
            refine s_op (o_move (v := (.pointer (some ⟨mb, 0, none⟩))) rfl ?_)
            refine s_op (o_loadN (cs := [(.int .i64 pl), (.int .i64 pn)]) Tryz.underlying50 rfl ti50 rfl hH53 (seg_sub 3 rfl) (CellsAt.one rfl) ?_)
            refine s_op (o_loadN (cs := [(.int .i64 (hdUp (Hd.mk h.seq 0 pn pl 0)).seq), (.int .i64 (hdUp (Hd.mk h.seq 0 pn pl 0)).ep), (.int .i64 (hdUp (Hd.mk h.seq 0 pn pl 0)).cut), (.int .i64 (hdUp (Hd.mk h.seq 0 pn pl 0)).st), (.int .i64 (hdUp (Hd.mk h.seq 0 pn pl 0)).mrk)]) Tryz.underlying27 rfl ti27 rfl hH53 (seg_sub 0 rfl) (CellsAt.one rfl) ?_)
            refine s_op (o_sight (v := (.agg #[(.int .i64 pl), (.int .i64 pn), (.int .i64 (hdUp (Hd.mk h.seq 0 pn pl 0)).seq), (.int .i64 (hdUp (Hd.mk h.seq 0 pn pl 0)).ep), (.int .i64 (hdUp (Hd.mk h.seq 0 pn pl 0)).cut), (.int .i64 (hdUp (Hd.mk h.seq 0 pn pl 0)).st), (.int .i64 (hdUp (Hd.mk h.seq 0 pn pl 0)).mrk)])) (fun _ => by kernel_rfl) ?_)
            refine s_op (o_nilCheck rfl ?_)
            refine s_op (o_fieldAddr (k := 0) (fun _ => by kernel_rfl) rfl ?_)
            refine s_eff (o_storeN (vs := [(.int .i64 pl), (.int .i64 pn), (.int .i64 (hdUp (Hd.mk h.seq 0 pn pl 0)).seq), (.int .i64 (hdUp (Hd.mk h.seq 0 pn pl 0)).ep), (.int .i64 (hdUp (Hd.mk h.seq 0 pn pl 0)).cut), (.int .i64 (hdUp (Hd.mk h.seq 0 pn pl 0)).st), (.int .i64 (hdUp (Hd.mk h.seq 0 pn pl 0)).mrk)]) (c' := #[(.int .i64 pl), (.int .i64 pn), (.int .i64 (hdUp (Hd.mk h.seq 0 pn pl 0)).seq), (.int .i64 (hdUp (Hd.mk h.seq 0 pn pl 0)).ep), (.int .i64 (hdUp (Hd.mk h.seq 0 pn pl 0)).cut), (.int .i64 (hdUp (Hd.mk h.seq 0 pn pl 0)).st), (.int .i64 (hdUp (Hd.mk h.seq 0 pn pl 0)).mrk), (.pointer (some ⟨db, 0, none⟩))]) ti93 rfl rfl rfl rfl (by intro u hu; simp only [List.mem_cons, List.not_mem_nil, or_false] at hu; rcases hu with rfl | rfl | rfl | rfl | rfl | rfl | rfl <;> first | rfl) (by simp) (by kernel_rfl) (hH53.front 4 rfl) fun w58 hH59 => ?_)
            refine s_nil ?_
            refine t_norm (hK55 _ _ ?_)
            refine wp_seq_k fun K60 hK60 => ?_
            refine c_region ?_
            refine s_op (o_move (v := (.int .i64 (0 : Int))) rfl ?_)
            refine s_op (o_assign (v := (.int .i64 (0 : Int))) rfl ?_)
            refine s_nil ?_
            refine t_norm (hK60 _ _ ?_)
            refine wp_ret ?_
            refine c_ret1 Tryz.results24  (v := (.int .i64 (0 : Int))) rfl ?_
            have hH61 : Has E w58 [[Hp.one mb (.cells #[(.int .i64 (hdUp (hdK h pl pn)).st), (.int .i64 (hdUp (hdK h pl pn)).cut), (.int .i64 (hdUp (hdK h pl pn)).seq), (.int .i64 (hdUp (hdK h pl pn)).ep), (.int .i64 (hdUp (hdK h pl pn)).cut), (.int .i64 (hdUp (hdK h pl pn)).st), (.int .i64 (hdUp (hdK h pl pn)).mrk), (.pointer (some ⟨db, 0, none⟩))] 95 (0, 0))], [Hp.one b42 (.cells #[(.int .i64 (hdUp (Hd.mk h.seq 0 pn pl 0)).seq), (.int .i64 (hdUp (Hd.mk h.seq 0 pn pl 0)).ep), (.int .i64 (hdUp (Hd.mk h.seq 0 pn pl 0)).cut), (.int .i64 (hdUp (Hd.mk h.seq 0 pn pl 0)).st), (.int .i64 (hdUp (Hd.mk h.seq 0 pn pl 0)).mrk)] 27 (0, 0))], sg46, [Hp.one pb (.cells #[(.bool (useS (useS p)).off), (.bool (useS (useS p)).armed), (.int .i64 (useS (useS p)).left), (.int .i64 (useS (useS p)).uses)] 78 (0, 0))], [Hp.one b2 (.cells #[(.int .i64 pl), (.int .i64 pn)] 50 (0, 0))], R] := hH59
            have hH62 : Has E w58 [sg46, [Hp.one pb (.cells #[(.bool (useS (useS p)).off), (.bool (useS (useS p)).armed), (.int .i64 (useS (useS p)).left), (.int .i64 (useS (useS p)).uses)] 78 (0, 0))], [Hp.one mb (.cells #[(.int .i64 (hdUp (hdK h pl pn)).st), (.int .i64 (hdUp (hdK h pl pn)).cut), (.int .i64 (hdUp (hdK h pl pn)).seq), (.int .i64 (hdUp (hdK h pl pn)).ep), (.int .i64 (hdUp (hdK h pl pn)).cut), (.int .i64 (hdUp (hdK h pl pn)).st), (.int .i64 (hdUp (hdK h pl pn)).mrk), (.pointer (some ⟨db, 0, none⟩))] 95 (0, 0))], R] := ((((hH61.front 5 rfl).front 1 rfl).front 4 rfl).front 4 rfl).first 4 rfl
            exact ⟨_, rfl, hd47, hH62⟩
          · -- not: (0 : Int) = 0
            exact absurd rfl h57
end Go.Q
namespace Go.Q
open Go.Proofs
set_option linter.unusedVariables false
set_option maxRecDepth 100000
attribute [local irreducible] wpList OK Code.wp
set_option maxHeartbeats 4000000 in
theorem awake19_c {E w : World} {R : List Hp} (hH : Has E w [R]) (hg : CellsAt R 0 0 nibV) :
    Calls Tryz.prog 20 #[] w fun e w' => e = .returned (.bool true) ∧ Has E w' [R] := by
  refine c_enter (args := []) Tryz.func20 rfl Tryz.ntmps20 (by simp) ?_
  refine wp_seq_k fun K1 hK1 => ?_
  refine c_region ?_
  refine s_op (o_assign (v := (.bool false)) rfl ?_)
  refine s_nil ?_
  refine t_norm (hK1 _ _ ?_)
  refine wp_seq_k fun K2 hK2 => ?_
  refine c_region ?_
  refine s_op (o_callf (vs := #[(.pointer none), (.int .i64 2)]) ca15 rfl (args2 rfl rfl) (new_nil hH.all (n := 2) (by decide)) ?_)
  rintro _ w9 ⟨db3, pb4, sg5, rfl, hd6, hX7⟩
  refine ⟨_, rfl, ?_⟩
  have hH8 : Has E w9 [sg5, [Hp.one pb4 (.cells #[(.bool (Pw.mk false false 0 0).off), (.bool (Pw.mk false false 0 0).armed), (.int .i64 (Pw.mk false false 0 0).left), (.int .i64 (Pw.mk false false 0 0).uses)] 78 (0, 0))], R] := hX7.of_all2
  refine s_op (o_assign (v := (.pointer (some ⟨db3, 0, none⟩))) rfl ?_)
  refine s_nil ?_
  refine t_norm (hK2 _ _ ?_)
  refine wp_seq_k fun K10 hK10 => ?_
  refine c_region ?_
  refine s_op (o_move (v := (.pointer (some ⟨db3, 0, none⟩))) rfl ?_)
  refine s_op (o_callf (vs := #[(.pointer (some ⟨db3, 0, none⟩))]) ca22 rfl (args1 rfl) (fmt_ok (p := (Pw.mk false false 0 0)) (la := (List.replicate 2 blankS)) ((hH8.front 1 rfl).front 1 rfl).all2 hd6 (hg.mono (seg_sub 0 rfl)) (by unfold PwOk; decide +kernel) (by unfold PwOk; decide +kernel) (by decide +kernel) (by decide +kernel) (by decide +kernel) (by decide +kernel)) ?_)
  rintro _ w16 ⟨mb11, sg12, rfl, hd13, hX14⟩
  refine ⟨_, rfl, ?_⟩
  have hH15 : Has E w16 [[Hp.one mb11 (.cells #[(.int .i64 (hdUp (Hd.mk 0 0 0 0 0)).st), (.int .i64 (hdUp (Hd.mk 0 0 0 0 0)).cut), (.int .i64 (hdUp (Hd.mk 0 0 0 0 0)).seq), (.int .i64 (hdUp (Hd.mk 0 0 0 0 0)).ep), (.int .i64 (hdUp (Hd.mk 0 0 0 0 0)).cut), (.int .i64 (hdUp (Hd.mk 0 0 0 0 0)).st), (.int .i64 (hdUp (Hd.mk 0 0 0 0 0)).mrk), (.pointer (some ⟨db3, 0, none⟩))] 95 (0, 0))], sg12, [Hp.one pb4 (.cells #[(.bool (useS (useS (Pw.mk false false 0 0))).off), (.bool (useS (useS (Pw.mk false false 0 0))).armed), (.int .i64 (useS (useS (Pw.mk false false 0 0))).left), (.int .i64 (useS (useS (Pw.mk false false 0 0))).uses)] 78 (0, 0))], R] := hX14.of_all3
  refine s_op (o_move (v := (.tuple #[(.pointer (some ⟨mb11, 0, none⟩)), (.int .i64 (0 : Int))])) rfl ?_)
  refine s_op (o_extract (v := (.pointer (some ⟨mb11, 0, none⟩))) rfl rfl ?_)
  refine s_op (o_extract (v := (.int .i64 (0 : Int))) rfl rfl ?_)
  refine s_op (o_assign (v := (.pointer (some ⟨mb11, 0, none⟩))) rfl ?_)
  refine s_op (o_assign (v := (.int .i64 (0 : Int))) rfl ?_)
  refine s_nil ?_
  refine t_norm (hK10 _ _ ?_)
  refine wp_seq_k fun K17 hK17 => ?_
  refine c_region ?_
  refine s_op (o_move (v := (.pointer (some ⟨mb11, 0, none⟩))) rfl ?_)
  refine s_op (o_sight (v := (.agg #[(.int .i64 4), (.int .i64 2)])) (fun _ => by kernel_rfl) ?_)
  refine s_op (o_callf (vs := #[(.pointer (some ⟨mb11, 0, none⟩)), (.agg #[(.int .i64 4), (.int .i64 2)])]) ca24 rfl (args2 rfl rfl) (keep_ok (p := (useS (useS (Pw.mk false false 0 0)))) (la := ((List.replicate 2 blankS).set (svN 0 (Hd.mk 0 0 0 0 0)).toNat (hdL (hdUp (Hd.mk 0 0 0 0 0))))) (h := (hdUp (Hd.mk 0 0 0 0 0))) ((hH15.front 2 rfl).front 2 rfl).all3 hd13 (hg.mono (seg_sub 0 rfl)) (by unfold PwOk; decide +kernel) (by unfold PwOk; decide +kernel) (by decide +kernel) (pl := 4) (pn := 2) ⟨by decide, by decide⟩ (by decide) (by decide +kernel) (by decide +kernel) (by decide +kernel)) ?_)
  rintro _ w22 ⟨sg19, rfl, hd18, hX20⟩
  refine ⟨_, rfl, ?_⟩
  have hH21 : Has E w22 [sg19, [Hp.one pb4 (.cells #[(.bool (useS (useS (useS (useS (Pw.mk false false 0 0))))).off), (.bool (useS (useS (useS (useS (Pw.mk false false 0 0))))).armed), (.int .i64 (useS (useS (useS (useS (Pw.mk false false 0 0))))).left), (.int .i64 (useS (useS (useS (useS (Pw.mk false false 0 0))))).uses)] 78 (0, 0))], [Hp.one mb11 (.cells #[(.int .i64 (hdUp (hdK (hdUp (Hd.mk 0 0 0 0 0)) 4 2)).st), (.int .i64 (hdUp (hdK (hdUp (Hd.mk 0 0 0 0 0)) 4 2)).cut), (.int .i64 (hdUp (hdK (hdUp (Hd.mk 0 0 0 0 0)) 4 2)).seq), (.int .i64 (hdUp (hdK (hdUp (Hd.mk 0 0 0 0 0)) 4 2)).ep), (.int .i64 (hdUp (hdK (hdUp (Hd.mk 0 0 0 0 0)) 4 2)).cut), (.int .i64 (hdUp (hdK (hdUp (Hd.mk 0 0 0 0 0)) 4 2)).st), (.int .i64 (hdUp (hdK (hdUp (Hd.mk 0 0 0 0 0)) 4 2)).mrk), (.pointer (some ⟨db3, 0, none⟩))] 95 (0, 0))], R] := hX20.of_all3
  refine s_op (o_assign (v := (.int .i64 (0 : Int))) rfl ?_)
  refine s_nil ?_
  refine t_norm (hK17 _ _ ?_)
  refine wp_seq_k fun K23 hK23 => ?_
  refine c_region ?_
  refine s_op (o_move (v := (.pointer (some ⟨db3, 0, none⟩))) rfl ?_)
  refine s_op (o_callf (vs := #[(.pointer (some ⟨db3, 0, none⟩))]) ca23 rfl (args1 rfl) (open_yes (p := (useS (useS (useS (useS (Pw.mk false false 0 0)))))) (la := (((List.replicate 2 blankS).set (svN 0 (Hd.mk 0 0 0 0 0)).toNat (hdL (hdUp (Hd.mk 0 0 0 0 0)))).set (svN 0 (hdK (hdUp (Hd.mk 0 0 0 0 0)) 4 2)).toNat (hdL (hdUp (hdK (hdUp (Hd.mk 0 0 0 0 0)) 4 2))))) ((hH21.front 1 rfl).front 1 rfl).all2 hd18 (hg.mono (seg_sub 1 rfl)) (by unfold Full64; decide +kernel) (by decide +kernel) (h := (hdUp (hdK (hdUp (Hd.mk 0 0 0 0 0)) 4 2))) (by decide +kernel) (by decide +kernel) rfl rfl) ?_)
  rintro _ w27 ⟨mb24, rfl, hX25⟩
  refine ⟨_, rfl, ?_⟩
  have hH26 : Has E w27 [[Hp.one mb24 (.cells #[(.int .i64 (hdUp (hdK (hdUp (Hd.mk 0 0 0 0 0)) 4 2)).st), (.int .i64 (hdUp (hdK (hdUp (Hd.mk 0 0 0 0 0)) 4 2)).cut), (.int .i64 (hdUp (hdK (hdUp (Hd.mk 0 0 0 0 0)) 4 2)).seq), (.int .i64 (hdUp (hdK (hdUp (Hd.mk 0 0 0 0 0)) 4 2)).ep), (.int .i64 (hdUp (hdK (hdUp (Hd.mk 0 0 0 0 0)) 4 2)).cut), (.int .i64 (hdUp (hdK (hdUp (Hd.mk 0 0 0 0 0)) 4 2)).st), (.int .i64 (hdUp (hdK (hdUp (Hd.mk 0 0 0 0 0)) 4 2)).mrk), (.pointer (some ⟨db3, 0, none⟩))] 95 (0, 0))], sg19, [Hp.one pb4 (.cells #[(.bool (useS (useS (useS (useS (Pw.mk false false 0 0))))).off), (.bool (useS (useS (useS (useS (Pw.mk false false 0 0))))).armed), (.int .i64 (useS (useS (useS (useS (Pw.mk false false 0 0))))).left), (.int .i64 (useS (useS (useS (useS (Pw.mk false false 0 0))))).uses)] 78 (0, 0))], [Hp.one mb11 (.cells #[(.int .i64 (hdUp (hdK (hdUp (Hd.mk 0 0 0 0 0)) 4 2)).st), (.int .i64 (hdUp (hdK (hdUp (Hd.mk 0 0 0 0 0)) 4 2)).cut), (.int .i64 (hdUp (hdK (hdUp (Hd.mk 0 0 0 0 0)) 4 2)).seq), (.int .i64 (hdUp (hdK (hdUp (Hd.mk 0 0 0 0 0)) 4 2)).ep), (.int .i64 (hdUp (hdK (hdUp (Hd.mk 0 0 0 0 0)) 4 2)).cut), (.int .i64 (hdUp (hdK (hdUp (Hd.mk 0 0 0 0 0)) 4 2)).st), (.int .i64 (hdUp (hdK (hdUp (Hd.mk 0 0 0 0 0)) 4 2)).mrk), (.pointer (some ⟨db3, 0, none⟩))] 95 (0, 0))], R] := hX25.of_all3
  refine s_op (o_move (v := (.tuple #[(.pointer (some ⟨mb24, 0, none⟩)), (.int .i64 (0 : Int))])) rfl ?_)
  refine s_op (o_extract (v := (.pointer (some ⟨mb24, 0, none⟩))) rfl rfl ?_)
  refine s_op (o_extract (v := (.int .i64 (0 : Int))) rfl rfl ?_)
  refine s_op (o_assign (v := (.pointer (some ⟨mb24, 0, none⟩))) rfl ?_)
  refine s_op (o_assign (v := (.int .i64 (0 : Int))) rfl ?_)
  refine s_nil ?_
  refine t_norm (hK23 _ _ ?_)
  refine wp_seq_k fun K28 hK28 => ?_
  refine c_region ?_
  refine s_op (o_buildSlice (ps := #[(0, (.int .i64 4)), (1, (.int .i64 7))]) (cells := #[(.int .i64 4), (.int .i64 7)]) Tryz.underlying46 ti3 (by decide) (parts2 rfl rfl) (by kernel_rfl) hH26 fun b29 w30 hH31 => ?_)
  refine s_op (o_callf (vs := #[(.int .i64 9), (.slice (some ⟨b29, 0, none⟩) 2 2)]) ca21 rfl (args2 rfl rfl) (low_c hH31.all 9 (l := [4, 7]) ((sl_lit (f := iV) (l := [4, 7]) rfl rfl (by simp)).mono (seg_sub 0 rfl))) ?_)
  rintro _ w34 ⟨rfl, hX32⟩
  refine ⟨_, rfl, ?_⟩
  have hH33 := hX32.of_all
  refine s_op (o_eql (a := lowS (sumS 0 [9, 1]) [4, 7]) (b := 4) rfl rfl ?_)
  refine s_op (o_move (v := (.bool (decide (lowS (sumS 0 [9, 1]) [4, 7] = 4)))) rfl ?_)
  by_cases h35 : lowS (sumS 0 [9, 1]) [4, 7] = 4
  · -- lowS (sumS 0 [9, 1]) [4, 7] = 4
    refine s_on 24 rfl (congrArg Value.bool (decide_eq_true h35)) (o_callf (vs := #[(.int .i64 9), (.slice none 0 0)]) ca21 rfl (args2 rfl rfl) (low_c hH33.all 9 (l := []) (sl_nil 1)) ?_)
    rintro _ w38 ⟨rfl, hX36⟩
    refine ⟨_, rfl, ?_⟩
    have hH37 := hX36.of_all
    refine s_on 24 rfl (congrArg Value.bool (decide_eq_true h35)) (o_eql (a := lowS (sumS 0 [9, 1]) []) (b := 10) rfl rfl ?_)
    refine s_op (o_pick_t (u := (.bool (decide (lowS (sumS 0 [9, 1]) [] = 10)))) ((rfl : _ = _).trans (congrArg Value.bool (decide_eq_true h35))) rfl ?_)
    refine s_op (o_move (v := (.bool (decide (lowS (sumS 0 [9, 1]) [] = 10)))) rfl ?_)
    by_cases h39 : lowS (sumS 0 [9, 1]) [] = 10
    · -- lowS (sumS 0 [9, 1]) [] = 10
      refine s_on 28 rfl (congrArg Value.bool (decide_eq_true h39)) (o_move (v := (.int .i64 (0 : Int))) rfl ?_)
      refine s_on 28 rfl (congrArg Value.bool (decide_eq_true h39)) (o_eql (a := (0 : Int)) (b := 0) rfl rfl ?_)
      refine s_op (o_pick_t (u := (.bool (decide ((0 : Int) = 0)))) ((rfl : _ = _).trans (congrArg Value.bool (decide_eq_true h39))) rfl ?_)
      refine s_op (o_move (v := (.bool (decide ((0 : Int) = 0)))) rfl ?_)
      by_cases h40 : (0 : Int) = 0
      · -- (0 : Int) = 0
        refine s_on 32 rfl (congrArg Value.bool (decide_eq_true h40)) (o_move (v := (.int .i64 (0 : Int))) rfl ?_)
        refine s_on 32 rfl (congrArg Value.bool (decide_eq_true h40)) (o_eql (a := (0 : Int)) (b := 0) rfl rfl ?_)
        refine s_op (o_pick_t (u := (.bool (decide ((0 : Int) = 0)))) ((rfl : _ = _).trans (congrArg Value.bool (decide_eq_true h40))) rfl ?_)
        refine s_op (o_move (v := (.bool (decide ((0 : Int) = 0)))) rfl ?_)
        refine s_on 36 rfl (congrArg Value.bool (decide_eq_true h40)) (o_move (v := (.int .i64 (0 : Int))) rfl ?_)
        refine s_on 36 rfl (congrArg Value.bool (decide_eq_true h40)) (o_eql (a := (0 : Int)) (b := 0) rfl rfl ?_)
        refine s_op (o_pick_t (u := (.bool (decide ((0 : Int) = 0)))) ((rfl : _ = _).trans (congrArg Value.bool (decide_eq_true h40))) rfl ?_)
        refine s_op (o_move (v := (.bool (decide ((0 : Int) = 0)))) rfl ?_)
        refine s_on 40 rfl (congrArg Value.bool (decide_eq_true h40)) (o_move (v := (.pointer (some ⟨mb24, 0, none⟩))) rfl ?_)
        refine s_on 40 rfl (congrArg Value.bool (decide_eq_true h40)) (o_callf (vs := #[(.pointer (some ⟨mb24, 0, none⟩))]) ca25 rfl (args1 rfl) (mpoint_c (h := (hdUp (hdK (hdUp (Hd.mk 0 0 0 0 0)) 4 2))) (db := db3) hH37.all ((CellsAt.one rfl).mono (seg_sub 1 rfl))) ?_)
        rintro _ w43 ⟨rfl, hX41⟩
        refine ⟨_, rfl, ?_⟩
        have hH42 := hX41.of_all
        refine s_on 40 rfl (congrArg Value.bool (decide_eq_true h40)) (o_sight (v := (.agg #[(.int .i64 4), (.int .i64 2)])) (fun _ => by kernel_rfl) ?_)
        refine s_on 40 rfl (congrArg Value.bool (decide_eq_true h40)) (o_eql50 ((hdUp (hdK (hdUp (Hd.mk 0 0 0 0 0)) 4 2)).st) ((hdUp (hdK (hdUp (Hd.mk 0 0 0 0 0)) 4 2)).cut) (4 : Int) (2 : Int) rfl rfl ?_)
        refine s_op (o_pick_t (u := (.bool (eqv50 ((hdUp (hdK (hdUp (Hd.mk 0 0 0 0 0)) 4 2)).st) ((hdUp (hdK (hdUp (Hd.mk 0 0 0 0 0)) 4 2)).cut) (4 : Int) (2 : Int)))) ((rfl : _ = _).trans (congrArg Value.bool (decide_eq_true h40))) rfl ?_)
        refine s_op (o_assign (v := (.bool (eqv50 ((hdUp (hdK (hdUp (Hd.mk 0 0 0 0 0)) 4 2)).st) ((hdUp (hdK (hdUp (Hd.mk 0 0 0 0 0)) 4 2)).cut) (4 : Int) (2 : Int)))) rfl ?_)
        refine s_nil ?_
        refine t_norm (hK28 _ _ ?_)
        refine wp_ret ?_
        refine c_ret1 Tryz.results20  (v := (.bool (eqv50 ((hdUp (hdK (hdUp (Hd.mk 0 0 0 0 0)) 4 2)).st) ((hdUp (hdK (hdUp (Hd.mk 0 0 0 0 0)) 4 2)).cut) (4 : Int) (2 : Int)))) rfl ?_
        have hH44 : Has E w43 [R] := (hH42.front 5 rfl).first 1 rfl
        exact ⟨by rw [show eqv50 ((hdUp (hdK (hdUp (Hd.mk 0 0 0 0 0)) 4 2)).st) ((hdUp (hdK (hdUp (Hd.mk 0 0 0 0 0)) 4 2)).cut) (4 : Int) (2 : Int) = true by decide +kernel], hH44⟩
      · -- not: (0 : Int) = 0
        exact absurd (by decide +kernel) h40
    · -- not: lowS (sumS 0 [9, 1]) [] = 10
      exact absurd (by decide +kernel) h39
  · -- not: lowS (sumS 0 [9, 1]) [4, 7] = 4
    exact absurd (by decide +kernel) h35
end Go.Q
namespace Go.Q
open Go.Proofs
set_option linter.unusedVariables false
set_option maxRecDepth 100000
attribute [local irreducible] wpList OK Code.wp
set_option maxHeartbeats 4000000 in
theorem keep_arg {E w : World} {R sg : List Hp} {pb db mb : Nat} {p : Pw} {la : List Bs} {h : Hd} (hH : Has E w [sg, [Hp.one pb (.cells #[(.bool p.off), (.bool p.armed), (.int .i64 p.left), (.int .i64 p.uses)] 78 (0, 0))], [Hp.one mb (.cells #[(.int .i64 h.st), (.int .i64 h.cut), (.int .i64 h.seq), (.int .i64 h.ep), (.int .i64 h.cut), (.int .i64 h.st), (.int .i64 h.mrk), (.pointer (some ⟨db, 0, none⟩))] 95 (0, 0))], R]) (hd : DevAt pb sg db la []) (hg : CellsAt R 0 0 nibV) (hp : PwOk p) (hq : PwOk (useS p)) (hla : la.length ≤ 4096) {pl pn : Int} (hlt : pl < h.st ∨ pn < h.cut) :
    Calls Tryz.prog 24 #[(.pointer (some ⟨mb, 0, none⟩)), (.agg #[(.int .i64 pl), (.int .i64 pn)])] w fun e w' => e = .returned (.int .i64 1) ∧ DevAt pb sg db la [] ∧ Has E w' [sg, [Hp.one pb (.cells #[(.bool p.off), (.bool p.armed), (.int .i64 p.left), (.int .i64 p.uses)] 78 (0, 0))], [Hp.one mb (.cells #[(.int .i64 h.st), (.int .i64 h.cut), (.int .i64 h.seq), (.int .i64 h.ep), (.int .i64 h.cut), (.int .i64 h.st), (.int .i64 h.mrk), (.pointer (some ⟨db, 0, none⟩))] 95 (0, 0))], R] := by
  refine c_enter (args := [(.pointer (some ⟨mb, 0, none⟩)), (.agg #[(.int .i64 pl), (.int .i64 pn)])]) Tryz.func24 rfl Tryz.ntmps24 (by simp) ?_
  refine wp_seq_k fun K1 hK1 => ?_
  refine c_region ?_
  refine s_op (o_box (cs := #[(.int .i64 pl), (.int .i64 pn)]) rfl rfl hH fun b2 w3 hH4 => ?_)
  refine s_op (o_assign (v := (.int .i64 0)) rfl ?_)
  refine s_nil ?_
  refine t_norm (hK1 _ _ ?_)
  refine wp_seq_k fun K5 hK5 => ?_
  refine wp_block ?_
  refine wp_seq_k fun K6 hK6 => ?_
  refine Rest.region mixed (by kernel_rfl) ?_
  have hH7 : Has E { w3 with drawn := w3.drawn + 1 } [[Hp.one b2 (.cells #[(.int .i64 pl), (.int .i64 pn)] 50 (0, 0))], sg, [Hp.one pb (.cells #[(.bool p.off), (.bool p.armed), (.int .i64 p.left), (.int .i64 p.uses)] 78 (0, 0))], [Hp.one mb (.cells #[(.int .i64 h.st), (.int .i64 h.cut), (.int .i64 h.seq), (.int .i64 h.ep), (.int .i64 h.cut), (.int .i64 h.st), (.int .i64 h.mrk), (.pointer (some ⟨db, 0, none⟩))] 95 (0, 0))], R] := Has0.drew hH4 _
  refine r_op 0 rfl (by kernel_rfl) (o_move (v := (.pointer (some ⟨mb, 0, none⟩))) rfl ?_)
  refine r_op 1 rfl (by kernel_rfl) (o_pnil (p := some _) Tryz.underlying51 rfl rfl ?_)
  refine r_op 2 rfl (by kernel_rfl) (o_move (v := (.bool false)) rfl ?_)
  refine Rest.phaseA (fun w_ => Has E w_ [[Hp.one b2 (.cells #[(.int .i64 pl), (.int .i64 pn)] 50 (0, 0))], [Hp.one mb (.cells #[(.int .i64 h.st), (.int .i64 h.cut), (.int .i64 h.seq), (.int .i64 h.ep), (.int .i64 h.cut), (.int .i64 h.st), (.int .i64 h.mrk), (.pointer (some ⟨db, 0, none⟩))] 95 (0, 0))]]) 3 11 8 rfl (by decide) (by kernel_rfl) ?_
  refine a_on 3 rfl (by kernel_rfl) 10 rfl rfl (fun w_ h_ => o_fieldAddr (k := 0) (fun _ => by kernel_rfl) rfl ⟨rfl, rfl⟩) ?_
  refine a_on 4 rfl (by kernel_rfl) 10 rfl rfl (fun w_ h_ => o_load1 (v := (.int .i64 pl)) Tryz.underlying3 rfl rfl h_ (seg_sub 0 rfl) (CellsAt.one rfl) ⟨rfl, rfl⟩) ?_
  refine a_on 5 rfl (by kernel_rfl) 10 rfl rfl (fun w_ h_ => o_move (v := (.pointer (some ⟨mb, 0, none⟩))) rfl ⟨rfl, rfl⟩) ?_
  refine a_on 6 rfl (by kernel_rfl) 10 rfl rfl (fun w_ h_ => o_nilCheck rfl ⟨rfl, rfl⟩) ?_
  refine a_on 7 rfl (by kernel_rfl) 10 rfl rfl (fun w_ h_ => o_fieldAddr (k := 0) (fun _ => by kernel_rfl) rfl ⟨rfl, rfl⟩) ?_
  refine a_on 8 rfl (by kernel_rfl) 10 rfl rfl (fun w_ h_ => o_fieldAddr (k := 0) (fun _ => by kernel_rfl) rfl ⟨rfl, rfl⟩) ?_
  refine a_on 9 rfl (by kernel_rfl) 10 rfl rfl (fun w_ h_ => o_fieldAddr (k := 0) (fun _ => by kernel_rfl) rfl ⟨rfl, rfl⟩) ?_
  refine a_on 10 rfl (by kernel_rfl) 10 rfl rfl (fun w_ h_ => o_load1 (v := (.int .i64 h.st)) Tryz.underlying3 rfl rfl h_ (seg_sub 1 rfl) (CellsAt.one rfl) ⟨rfl, rfl⟩) ?_
  have hH8 : Has E { w3 with drawn := w3.drawn + 1 } [[Hp.one b2 (.cells #[(.int .i64 pl), (.int .i64 pn)] 50 (0, 0))], [Hp.one mb (.cells #[(.int .i64 h.st), (.int .i64 h.cut), (.int .i64 h.seq), (.int .i64 h.ep), (.int .i64 h.cut), (.int .i64 h.st), (.int .i64 h.mrk), (.pointer (some ⟨db, 0, none⟩))] 95 (0, 0))]] := ((hH7.front 3 rfl).front 1 rfl).first 2 rfl
  refine a_done (by kernel_rfl) hH8 ?_
  refine r_on 11 rfl (by kernel_rfl) 10 rfl rfl (o_lss (a := pl) (b := h.st) rfl rfl ?_)
  refine r_op 12 rfl (by kernel_rfl) (o_pick_f (u := (.bool (decide (pl < h.st)))) rfl rfl ?_)
  refine r_op 13 rfl (by kernel_rfl) (o_move (v := (.bool (decide (pl < h.st)))) rfl ?_)
  refine Rest.phaseA (fun w_ => Has E w_ [[Hp.one b2 (.cells #[(.int .i64 pl), (.int .i64 pn)] 50 (0, 0))], [Hp.one mb (.cells #[(.int .i64 h.st), (.int .i64 h.cut), (.int .i64 h.seq), (.int .i64 h.ep), (.int .i64 h.cut), (.int .i64 h.st), (.int .i64 h.mrk), (.pointer (some ⟨db, 0, none⟩))] 95 (0, 0))]]) 14 22 8 rfl (by decide) (by kernel_rfl) ?_
  by_cases h9 : pl < h.st
  · -- pl < h.st
    refine a_off (b' := true) 14 rfl (by kernel_rfl) 21 rfl (congrArg Value.bool (decide_eq_true h9)) rfl ?_
    refine a_off (b' := true) 15 rfl (by kernel_rfl) 21 rfl (congrArg Value.bool (decide_eq_true h9)) rfl ?_
    refine a_off (b' := true) 16 rfl (by kernel_rfl) 21 rfl (congrArg Value.bool (decide_eq_true h9)) rfl ?_
    refine a_off (b' := true) 17 rfl (by kernel_rfl) 21 rfl (congrArg Value.bool (decide_eq_true h9)) rfl ?_
    refine a_off (b' := true) 18 rfl (by kernel_rfl) 21 rfl (congrArg Value.bool (decide_eq_true h9)) rfl ?_
    refine a_off (b' := true) 19 rfl (by kernel_rfl) 21 rfl (congrArg Value.bool (decide_eq_true h9)) rfl ?_
    refine a_off (b' := true) 20 rfl (by kernel_rfl) 21 rfl (congrArg Value.bool (decide_eq_true h9)) rfl ?_
    refine a_off (b' := true) 21 rfl (by kernel_rfl) 21 rfl (congrArg Value.bool (decide_eq_true h9)) rfl ?_
    have hH10 : Has E { w3 with drawn := w3.drawn + 1 } [[Hp.one b2 (.cells #[(.int .i64 pl), (.int .i64 pn)] 50 (0, 0))], [Hp.one mb (.cells #[(.int .i64 h.st), (.int .i64 h.cut), (.int .i64 h.seq), (.int .i64 h.ep), (.int .i64 h.cut), (.int .i64 h.st), (.int .i64 h.mrk), (.pointer (some ⟨db, 0, none⟩))] 95 (0, 0))]] := ((hH7.front 3 rfl).front 1 rfl).first 2 rfl
    refine a_done (by kernel_rfl) hH10 ?_
    refine r_off (b' := true) 22 rfl (by kernel_rfl) 21 rfl (congrArg Value.bool (decide_eq_true h9)) rfl ?_
    refine r_op 23 rfl (by kernel_rfl) (o_pick_t (u := (.bool true)) ((rfl : _ = _).trans (congrArg Value.bool (decide_eq_true h9))) rfl ?_)
    refine r_op 24 rfl (by kernel_rfl) (o_assign (v := (.bool true)) rfl ?_)
    refine Rest.done (by kernel_rfl) ?_
    refine t_norm (hK6 _ _ ?_)
    refine c_true rfl rfl ?_
    refine wp_seq_k fun K11 hK11 => ?_
    refine c_region ?_
    refine s_op (o_assign (v := (.int .i64 1)) rfl ?_)
    refine s_nil ?_
    refine t_norm (hK11 _ _ ?_)
    refine wp_ret ?_
    refine b_ret (t_ret (c_ret1 Tryz.results24  (v := (.int .i64 1)) rfl ?_))
    have hH12 : Has E { w3 with drawn := w3.drawn + 1 } [sg, [Hp.one pb (.cells #[(.bool p.off), (.bool p.armed), (.int .i64 p.left), (.int .i64 p.uses)] 78 (0, 0))], [Hp.one mb (.cells #[(.int .i64 h.st), (.int .i64 h.cut), (.int .i64 h.seq), (.int .i64 h.ep), (.int .i64 h.cut), (.int .i64 h.st), (.int .i64 h.mrk), (.pointer (some ⟨db, 0, none⟩))] 95 (0, 0))], R] := ((((hH7.front 4 rfl).front 4 rfl).front 4 rfl).front 4 rfl).first 4 rfl
    exact ⟨rfl, hd, hH12⟩
  · -- not: pl < h.st
    refine a_on 14 rfl (by kernel_rfl) 21 rfl (congrArg Value.bool (decide_eq_false h9)) (fun w_ h_ => o_fieldAddr (k := 1) (fun _ => by kernel_rfl) rfl ⟨rfl, rfl⟩) ?_
    refine a_on 15 rfl (by kernel_rfl) 21 rfl (congrArg Value.bool (decide_eq_false h9)) (fun w_ h_ => o_load1 (v := (.int .i64 pn)) Tryz.underlying3 rfl rfl h_ (seg_sub 0 rfl) (CellsAt.one rfl) ⟨rfl, rfl⟩) ?_
    refine a_on 16 rfl (by kernel_rfl) 21 rfl (congrArg Value.bool (decide_eq_false h9)) (fun w_ h_ => o_move (v := (.pointer (some ⟨mb, 0, none⟩))) rfl ⟨rfl, rfl⟩) ?_
    refine a_on 17 rfl (by kernel_rfl) 21 rfl (congrArg Value.bool (decide_eq_false h9)) (fun w_ h_ => o_nilCheck rfl ⟨rfl, rfl⟩) ?_
    refine a_on 18 rfl (by kernel_rfl) 21 rfl (congrArg Value.bool (decide_eq_false h9)) (fun w_ h_ => o_fieldAddr (k := 0) (fun _ => by kernel_rfl) rfl ⟨rfl, rfl⟩) ?_
    refine a_on 19 rfl (by kernel_rfl) 21 rfl (congrArg Value.bool (decide_eq_false h9)) (fun w_ h_ => o_fieldAddr (k := 0) (fun _ => by kernel_rfl) rfl ⟨rfl, rfl⟩) ?_
    refine a_on 20 rfl (by kernel_rfl) 21 rfl (congrArg Value.bool (decide_eq_false h9)) (fun w_ h_ => o_fieldAddr (k := 1) (fun _ => by kernel_rfl) rfl ⟨rfl, rfl⟩) ?_
    refine a_on 21 rfl (by kernel_rfl) 21 rfl (congrArg Value.bool (decide_eq_false h9)) (fun w_ h_ => o_load1 (v := (.int .i64 h.cut)) Tryz.underlying3 rfl rfl h_ (seg_sub 1 rfl) (CellsAt.one rfl) ⟨rfl, rfl⟩) ?_
    have hH13 : Has E { w3 with drawn := w3.drawn + 1 } [[Hp.one b2 (.cells #[(.int .i64 pl), (.int .i64 pn)] 50 (0, 0))], [Hp.one mb (.cells #[(.int .i64 h.st), (.int .i64 h.cut), (.int .i64 h.seq), (.int .i64 h.ep), (.int .i64 h.cut), (.int .i64 h.st), (.int .i64 h.mrk), (.pointer (some ⟨db, 0, none⟩))] 95 (0, 0))]] := ((hH7.front 3 rfl).front 1 rfl).first 2 rfl
    refine a_done (by kernel_rfl) hH13 ?_
    refine r_on 22 rfl (by kernel_rfl) 21 rfl (congrArg Value.bool (decide_eq_false h9)) (o_lss (a := pn) (b := h.cut) rfl rfl ?_)
    refine r_op 23 rfl (by kernel_rfl) (o_pick_f (u := (.bool (decide (pn < h.cut)))) ((rfl : _ = _).trans (congrArg Value.bool (decide_eq_false h9))) rfl ?_)
    refine r_op 24 rfl (by kernel_rfl) (o_assign (v := (.bool (decide (pn < h.cut)))) rfl ?_)
    refine Rest.done (by kernel_rfl) ?_
    refine t_norm (hK6 _ _ ?_)
    refine c_cond rfl (fun h14 => ?_) (fun h14 => ?_)
    · -- pn < h.cut
      refine wp_seq_k fun K15 hK15 => ?_
      refine c_region ?_
      refine s_op (o_assign (v := (.int .i64 1)) rfl ?_)
      refine s_nil ?_
      refine t_norm (hK15 _ _ ?_)
      refine wp_ret ?_
      refine b_ret (t_ret (c_ret1 Tryz.results24  (v := (.int .i64 1)) rfl ?_))
      have hH16 : Has E { w3 with drawn := w3.drawn + 1 } [sg, [Hp.one pb (.cells #[(.bool p.off), (.bool p.armed), (.int .i64 p.left), (.int .i64 p.uses)] 78 (0, 0))], [Hp.one mb (.cells #[(.int .i64 h.st), (.int .i64 h.cut), (.int .i64 h.seq), (.int .i64 h.ep), (.int .i64 h.cut), (.int .i64 h.st), (.int .i64 h.mrk), (.pointer (some ⟨db, 0, none⟩))] 95 (0, 0))], R] := ((((hH7.front 4 rfl).front 4 rfl).front 4 rfl).front 4 rfl).first 4 rfl
      exact ⟨rfl, hd, hH16⟩
    · -- not: pn < h.cut
      exfalso; omega
end Go.Q
namespace Go.Q
open Go.Proofs
set_option linter.unusedVariables false
set_option maxRecDepth 100000
attribute [local irreducible] wpList OK Code.wp
set_option maxHeartbeats 4000000 in
theorem keep_same {E w : World} {R sg : List Hp} {pb db mb : Nat} {p : Pw} {la : List Bs} {h : Hd} (hH : Has E w [sg, [Hp.one pb (.cells #[(.bool p.off), (.bool p.armed), (.int .i64 p.left), (.int .i64 p.uses)] 78 (0, 0))], [Hp.one mb (.cells #[(.int .i64 h.st), (.int .i64 h.cut), (.int .i64 h.seq), (.int .i64 h.ep), (.int .i64 h.cut), (.int .i64 h.st), (.int .i64 h.mrk), (.pointer (some ⟨db, 0, none⟩))] 95 (0, 0))], R]) (hd : DevAt pb sg db la []) (hg : CellsAt R 0 0 nibV) (hp : PwOk p) (hq : PwOk (useS p)) (hla : la.length ≤ 4096) {pl pn : Int} (hge : pl = h.st) (hge2 : pn = h.cut) :
    Calls Tryz.prog 24 #[(.pointer (some ⟨mb, 0, none⟩)), (.agg #[(.int .i64 pl), (.int .i64 pn)])] w fun e w' => e = .returned (.int .i64 0) ∧ DevAt pb sg db la [] ∧ Has E w' [sg, [Hp.one pb (.cells #[(.bool p.off), (.bool p.armed), (.int .i64 p.left), (.int .i64 p.uses)] 78 (0, 0))], [Hp.one mb (.cells #[(.int .i64 h.st), (.int .i64 h.cut), (.int .i64 h.seq), (.int .i64 h.ep), (.int .i64 h.cut), (.int .i64 h.st), (.int .i64 h.mrk), (.pointer (some ⟨db, 0, none⟩))] 95 (0, 0))], R] := by
  refine c_enter (args := [(.pointer (some ⟨mb, 0, none⟩)), (.agg #[(.int .i64 pl), (.int .i64 pn)])]) Tryz.func24 rfl Tryz.ntmps24 (by simp) ?_
  refine wp_seq_k fun K1 hK1 => ?_
  refine c_region ?_
  refine s_op (o_box (cs := #[(.int .i64 pl), (.int .i64 pn)]) rfl rfl hH fun b2 w3 hH4 => ?_)
  refine s_op (o_assign (v := (.int .i64 0)) rfl ?_)
  refine s_nil ?_
  refine t_norm (hK1 _ _ ?_)
  refine wp_seq_k fun K5 hK5 => ?_
  refine wp_block ?_
  refine wp_seq_k fun K6 hK6 => ?_
  refine Rest.region mixed (by kernel_rfl) ?_
  have hH7 : Has E { w3 with drawn := w3.drawn + 1 } [[Hp.one b2 (.cells #[(.int .i64 pl), (.int .i64 pn)] 50 (0, 0))], sg, [Hp.one pb (.cells #[(.bool p.off), (.bool p.armed), (.int .i64 p.left), (.int .i64 p.uses)] 78 (0, 0))], [Hp.one mb (.cells #[(.int .i64 h.st), (.int .i64 h.cut), (.int .i64 h.seq), (.int .i64 h.ep), (.int .i64 h.cut), (.int .i64 h.st), (.int .i64 h.mrk), (.pointer (some ⟨db, 0, none⟩))] 95 (0, 0))], R] := Has0.drew hH4 _
  refine r_op 0 rfl (by kernel_rfl) (o_move (v := (.pointer (some ⟨mb, 0, none⟩))) rfl ?_)
  refine r_op 1 rfl (by kernel_rfl) (o_pnil (p := some _) Tryz.underlying51 rfl rfl ?_)
  refine r_op 2 rfl (by kernel_rfl) (o_move (v := (.bool false)) rfl ?_)
  refine Rest.phaseA (fun w_ => Has E w_ [[Hp.one b2 (.cells #[(.int .i64 pl), (.int .i64 pn)] 50 (0, 0))], [Hp.one mb (.cells #[(.int .i64 h.st), (.int .i64 h.cut), (.int .i64 h.seq), (.int .i64 h.ep), (.int .i64 h.cut), (.int .i64 h.st), (.int .i64 h.mrk), (.pointer (some ⟨db, 0, none⟩))] 95 (0, 0))]]) 3 11 8 rfl (by decide) (by kernel_rfl) ?_
  refine a_on 3 rfl (by kernel_rfl) 10 rfl rfl (fun w_ h_ => o_fieldAddr (k := 0) (fun _ => by kernel_rfl) rfl ⟨rfl, rfl⟩) ?_
  refine a_on 4 rfl (by kernel_rfl) 10 rfl rfl (fun w_ h_ => o_load1 (v := (.int .i64 pl)) Tryz.underlying3 rfl rfl h_ (seg_sub 0 rfl) (CellsAt.one rfl) ⟨rfl, rfl⟩) ?_
  refine a_on 5 rfl (by kernel_rfl) 10 rfl rfl (fun w_ h_ => o_move (v := (.pointer (some ⟨mb, 0, none⟩))) rfl ⟨rfl, rfl⟩) ?_
  refine a_on 6 rfl (by kernel_rfl) 10 rfl rfl (fun w_ h_ => o_nilCheck rfl ⟨rfl, rfl⟩) ?_
  refine a_on 7 rfl (by kernel_rfl) 10 rfl rfl (fun w_ h_ => o_fieldAddr (k := 0) (fun _ => by kernel_rfl) rfl ⟨rfl, rfl⟩) ?_
  refine a_on 8 rfl (by kernel_rfl) 10 rfl rfl (fun w_ h_ => o_fieldAddr (k := 0) (fun _ => by kernel_rfl) rfl ⟨rfl, rfl⟩) ?_
  refine a_on 9 rfl (by kernel_rfl) 10 rfl rfl (fun w_ h_ => o_fieldAddr (k := 0) (fun _ => by kernel_rfl) rfl ⟨rfl, rfl⟩) ?_
  refine a_on 10 rfl (by kernel_rfl) 10 rfl rfl (fun w_ h_ => o_load1 (v := (.int .i64 h.st)) Tryz.underlying3 rfl rfl h_ (seg_sub 1 rfl) (CellsAt.one rfl) ⟨rfl, rfl⟩) ?_
  have hH8 : Has E { w3 with drawn := w3.drawn + 1 } [[Hp.one b2 (.cells #[(.int .i64 pl), (.int .i64 pn)] 50 (0, 0))], [Hp.one mb (.cells #[(.int .i64 h.st), (.int .i64 h.cut), (.int .i64 h.seq), (.int .i64 h.ep), (.int .i64 h.cut), (.int .i64 h.st), (.int .i64 h.mrk), (.pointer (some ⟨db, 0, none⟩))] 95 (0, 0))]] := ((hH7.front 3 rfl).front 1 rfl).first 2 rfl
  refine a_done (by kernel_rfl) hH8 ?_
  refine r_on 11 rfl (by kernel_rfl) 10 rfl rfl (o_lss (a := pl) (b := h.st) rfl rfl ?_)
  refine r_op 12 rfl (by kernel_rfl) (o_pick_f (u := (.bool (decide (pl < h.st)))) rfl rfl ?_)
  refine r_op 13 rfl (by kernel_rfl) (o_move (v := (.bool (decide (pl < h.st)))) rfl ?_)
  refine Rest.phaseA (fun w_ => Has E w_ [[Hp.one b2 (.cells #[(.int .i64 pl), (.int .i64 pn)] 50 (0, 0))], [Hp.one mb (.cells #[(.int .i64 h.st), (.int .i64 h.cut), (.int .i64 h.seq), (.int .i64 h.ep), (.int .i64 h.cut), (.int .i64 h.st), (.int .i64 h.mrk), (.pointer (some ⟨db, 0, none⟩))] 95 (0, 0))]]) 14 22 8 rfl (by decide) (by kernel_rfl) ?_
  by_cases h9 : pl < h.st
  · -- pl < h.st
    exfalso; omega
  · -- not: pl < h.st
    refine a_on 14 rfl (by kernel_rfl) 21 rfl (congrArg Value.bool (decide_eq_false h9)) (fun w_ h_ => o_fieldAddr (k := 1) (fun _ => by kernel_rfl) rfl ⟨rfl, rfl⟩) ?_
    refine a_on 15 rfl (by kernel_rfl) 21 rfl (congrArg Value.bool (decide_eq_false h9)) (fun w_ h_ => o_load1 (v := (.int .i64 pn)) Tryz.underlying3 rfl rfl h_ (seg_sub 0 rfl) (CellsAt.one rfl) ⟨rfl, rfl⟩) ?_
    refine a_on 16 rfl (by kernel_rfl) 21 rfl (congrArg Value.bool (decide_eq_false h9)) (fun w_ h_ => o_move (v := (.pointer (some ⟨mb, 0, none⟩))) rfl ⟨rfl, rfl⟩) ?_
    refine a_on 17 rfl (by kernel_rfl) 21 rfl (congrArg Value.bool (decide_eq_false h9)) (fun w_ h_ => o_nilCheck rfl ⟨rfl, rfl⟩) ?_
    refine a_on 18 rfl (by kernel_rfl) 21 rfl (congrArg Value.bool (decide_eq_false h9)) (fun w_ h_ => o_fieldAddr (k := 0) (fun _ => by kernel_rfl) rfl ⟨rfl, rfl⟩) ?_
    refine a_on 19 rfl (by kernel_rfl) 21 rfl (congrArg Value.bool (decide_eq_false h9)) (fun w_ h_ => o_fieldAddr (k := 0) (fun _ => by kernel_rfl) rfl ⟨rfl, rfl⟩) ?_
    refine a_on 20 rfl (by kernel_rfl) 21 rfl (congrArg Value.bool (decide_eq_false h9)) (fun w_ h_ => o_fieldAddr (k := 1) (fun _ => by kernel_rfl) rfl ⟨rfl, rfl⟩) ?_
    refine a_on 21 rfl (by kernel_rfl) 21 rfl (congrArg Value.bool (decide_eq_false h9)) (fun w_ h_ => o_load1 (v := (.int .i64 h.cut)) Tryz.underlying3 rfl rfl h_ (seg_sub 1 rfl) (CellsAt.one rfl) ⟨rfl, rfl⟩) ?_
    have hH10 : Has E { w3 with drawn := w3.drawn + 1 } [[Hp.one b2 (.cells #[(.int .i64 pl), (.int .i64 pn)] 50 (0, 0))], [Hp.one mb (.cells #[(.int .i64 h.st), (.int .i64 h.cut), (.int .i64 h.seq), (.int .i64 h.ep), (.int .i64 h.cut), (.int .i64 h.st), (.int .i64 h.mrk), (.pointer (some ⟨db, 0, none⟩))] 95 (0, 0))]] := ((hH7.front 3 rfl).front 1 rfl).first 2 rfl
    refine a_done (by kernel_rfl) hH10 ?_
    refine r_on 22 rfl (by kernel_rfl) 21 rfl (congrArg Value.bool (decide_eq_false h9)) (o_lss (a := pn) (b := h.cut) rfl rfl ?_)
    refine r_op 23 rfl (by kernel_rfl) (o_pick_f (u := (.bool (decide (pn < h.cut)))) ((rfl : _ = _).trans (congrArg Value.bool (decide_eq_false h9))) rfl ?_)
    refine r_op 24 rfl (by kernel_rfl) (o_assign (v := (.bool (decide (pn < h.cut)))) rfl ?_)
    refine Rest.done (by kernel_rfl) ?_
    refine t_norm (hK6 _ _ ?_)
    refine c_cond rfl (fun h11 => ?_) (fun h11 => ?_)
    · -- pn < h.cut
      exfalso; omega
    · -- not: pn < h.cut
      refine wp_seq_k fun K12 hK12 => ?_
      refine Rest.region mixed (by kernel_rfl) ?_
      have hH13 : Has E { { w3 with drawn := w3.drawn + 1 } with drawn := { w3 with drawn := w3.drawn + 1 }.drawn + 1 } [[Hp.one b2 (.cells #[(.int .i64 pl), (.int .i64 pn)] 50 (0, 0))], sg, [Hp.one pb (.cells #[(.bool p.off), (.bool p.armed), (.int .i64 p.left), (.int .i64 p.uses)] 78 (0, 0))], [Hp.one mb (.cells #[(.int .i64 h.st), (.int .i64 h.cut), (.int .i64 h.seq), (.int .i64 h.ep), (.int .i64 h.cut), (.int .i64 h.st), (.int .i64 h.mrk), (.pointer (some ⟨db, 0, none⟩))] 95 (0, 0))], R] := Has0.drew hH7 _
      refine Rest.phaseA (fun w_ => Has E w_ [[Hp.one b2 (.cells #[(.int .i64 pl), (.int .i64 pn)] 50 (0, 0))], [Hp.one mb (.cells #[(.int .i64 h.st), (.int .i64 h.cut), (.int .i64 h.seq), (.int .i64 h.ep), (.int .i64 h.cut), (.int .i64 h.st), (.int .i64 h.mrk), (.pointer (some ⟨db, 0, none⟩))] 95 (0, 0))]]) 0 6 6 rfl (by decide) (by kernel_rfl) ?_
      refine a_op 0 rfl (by kernel_rfl) (fun w_ h_ => o_loadN (cs := [(.int .i64 pl), (.int .i64 pn)]) Tryz.underlying50 rfl ti50 rfl h_ (seg_sub 0 rfl) (CellsAt.one rfl) ⟨rfl, rfl⟩) ?_
      refine a_op 1 rfl (by kernel_rfl) (fun w_ h_ => o_move (v := (.pointer (some ⟨mb, 0, none⟩))) rfl ⟨rfl, rfl⟩) ?_
      refine a_op 2 rfl (by kernel_rfl) (fun w_ h_ => o_nilCheck rfl ⟨rfl, rfl⟩) ?_
      refine a_op 3 rfl (by kernel_rfl) (fun w_ h_ => o_fieldAddr (k := 0) (fun _ => by kernel_rfl) rfl ⟨rfl, rfl⟩) ?_
      refine a_op 4 rfl (by kernel_rfl) (fun w_ h_ => o_fieldAddr (k := 0) (fun _ => by kernel_rfl) rfl ⟨rfl, rfl⟩) ?_
      refine a_op 5 rfl (by kernel_rfl) (fun w_ h_ => o_loadN (cs := [(.int .i64 h.st), (.int .i64 h.cut)]) Tryz.underlying50 rfl ti50 rfl h_ (seg_sub 1 rfl) (CellsAt.one rfl) ⟨rfl, rfl⟩) ?_
      have hH14 : Has E { { w3 with drawn := w3.drawn + 1 } with drawn := { w3 with drawn := w3.drawn + 1 }.drawn + 1 } [[Hp.one b2 (.cells #[(.int .i64 pl), (.int .i64 pn)] 50 (0, 0))], [Hp.one mb (.cells #[(.int .i64 h.st), (.int .i64 h.cut), (.int .i64 h.seq), (.int .i64 h.ep), (.int .i64 h.cut), (.int .i64 h.st), (.int .i64 h.mrk), (.pointer (some ⟨db, 0, none⟩))] 95 (0, 0))]] := ((hH13.front 3 rfl).front 1 rfl).first 2 rfl
      refine a_done (by kernel_rfl) hH14 ?_
      refine r_op 6 rfl (by kernel_rfl) (o_eql50 pl pn h.st h.cut rfl rfl ?_)
      refine r_op 7 rfl (by kernel_rfl) (o_assign (v := (.bool (eqv50 pl pn h.st h.cut))) rfl ?_)
      refine Rest.done (by kernel_rfl) ?_
      refine t_norm (hK12 _ _ ?_)
      refine c_condb rfl (fun h15 => ?_) (fun h15 => ?_)
      · -- eqv50 pl pn h.st h.cut
        refine wp_seq_k fun K16 hK16 => ?_
        refine c_region ?_
        refine s_op (o_assign (v := (.int .i64 0)) rfl ?_)
        refine s_nil ?_
        refine t_norm (hK16 _ _ ?_)
        refine wp_ret ?_
        refine b_ret (t_ret (c_ret1 Tryz.results24  (v := (.int .i64 0)) rfl ?_))
        have hH17 : Has E { { w3 with drawn := w3.drawn + 1 } with drawn := { w3 with drawn := w3.drawn + 1 }.drawn + 1 } [sg, [Hp.one pb (.cells #[(.bool p.off), (.bool p.armed), (.int .i64 p.left), (.int .i64 p.uses)] 78 (0, 0))], [Hp.one mb (.cells #[(.int .i64 h.st), (.int .i64 h.cut), (.int .i64 h.seq), (.int .i64 h.ep), (.int .i64 h.cut), (.int .i64 h.st), (.int .i64 h.mrk), (.pointer (some ⟨db, 0, none⟩))] 95 (0, 0))], R] := ((((hH13.front 4 rfl).front 4 rfl).front 4 rfl).front 4 rfl).first 4 rfl
        exact ⟨rfl, hd, hH17⟩
      · -- not: eqv50 pl pn h.st h.cut
        exact absurd ((eqv50_iff _ _ _ _).2 ⟨hge, hge2⟩) (by rw [h15]; decide)
end Go.Q
namespace Go.Q
open Go.Proofs
set_option linter.unusedVariables false
set_option maxRecDepth 100000
attribute [local irreducible] wpList OK Code.wp
set_option maxHeartbeats 4000000 in
theorem keep_no {E w : World} {R sg : List Hp} {pb db mb : Nat} {p : Pw} {la : List Bs} {h : Hd} (hH : Has E w [sg, [Hp.one pb (.cells #[(.bool p.off), (.bool p.armed), (.int .i64 p.left), (.int .i64 p.uses)] 78 (0, 0))], [Hp.one mb (.cells #[(.int .i64 h.st), (.int .i64 h.cut), (.int .i64 h.seq), (.int .i64 h.ep), (.int .i64 h.cut), (.int .i64 h.st), (.int .i64 h.mrk), (.pointer (some ⟨db, 0, none⟩))] 95 (0, 0))], R]) (hd : DevAt pb sg db la []) (hg : CellsAt R 0 0 nibV) (hp : PwOk p) (hq : PwOk (useS p)) (hla : la.length ≤ 4096) {pl pn : Int} (hge : h.st ≤ pl ∧ h.cut ≤ pn) (hne : ¬ (pl = h.st ∧ pn = h.cut)) (hT : ¬ svTry la.length 0 (hdK h pl pn)) :
    Calls Tryz.prog 24 #[(.pointer (some ⟨mb, 0, none⟩)), (.agg #[(.int .i64 pl), (.int .i64 pn)])] w fun e w' => ∃ sg', e = .returned (.int .i64 1) ∧ DevAt pb sg' db la [] ∧ Has E w' [sg', [Hp.one pb (.cells #[(.bool p.off), (.bool p.armed), (.int .i64 p.left), (.int .i64 p.uses)] 78 (0, 0))], [Hp.one mb (.cells #[(.int .i64 h.st), (.int .i64 h.cut), (.int .i64 h.seq), (.int .i64 h.ep), (.int .i64 h.cut), (.int .i64 h.st), (.int .i64 h.mrk), (.pointer (some ⟨db, 0, none⟩))] 95 (0, 0))], R] := by
  refine c_enter (args := [(.pointer (some ⟨mb, 0, none⟩)), (.agg #[(.int .i64 pl), (.int .i64 pn)])]) Tryz.func24 rfl Tryz.ntmps24 (by simp) ?_
  refine wp_seq_k fun K1 hK1 => ?_
  refine c_region ?_
  refine s_op (o_box (cs := #[(.int .i64 pl), (.int .i64 pn)]) rfl rfl hH fun b2 w3 hH4 => ?_)
  refine s_op (o_assign (v := (.int .i64 0)) rfl ?_)
  refine s_nil ?_
  refine t_norm (hK1 _ _ ?_)
  refine wp_seq_k fun K5 hK5 => ?_
  refine wp_block ?_
  refine wp_seq_k fun K6 hK6 => ?_
  refine Rest.region mixed (by kernel_rfl) ?_
  have hH7 : Has E { w3 with drawn := w3.drawn + 1 } [[Hp.one b2 (.cells #[(.int .i64 pl), (.int .i64 pn)] 50 (0, 0))], sg, [Hp.one pb (.cells #[(.bool p.off), (.bool p.armed), (.int .i64 p.left), (.int .i64 p.uses)] 78 (0, 0))], [Hp.one mb (.cells #[(.int .i64 h.st), (.int .i64 h.cut), (.int .i64 h.seq), (.int .i64 h.ep), (.int .i64 h.cut), (.int .i64 h.st), (.int .i64 h.mrk), (.pointer (some ⟨db, 0, none⟩))] 95 (0, 0))], R] := Has0.drew hH4 _
  refine r_op 0 rfl (by kernel_rfl) (o_move (v := (.pointer (some ⟨mb, 0, none⟩))) rfl ?_)
  refine r_op 1 rfl (by kernel_rfl) (o_pnil (p := some _) Tryz.underlying51 rfl rfl ?_)
  refine r_op 2 rfl (by kernel_rfl) (o_move (v := (.bool false)) rfl ?_)
  refine Rest.phaseA (fun w_ => Has E w_ [[Hp.one b2 (.cells #[(.int .i64 pl), (.int .i64 pn)] 50 (0, 0))], [Hp.one mb (.cells #[(.int .i64 h.st), (.int .i64 h.cut), (.int .i64 h.seq), (.int .i64 h.ep), (.int .i64 h.cut), (.int .i64 h.st), (.int .i64 h.mrk), (.pointer (some ⟨db, 0, none⟩))] 95 (0, 0))]]) 3 11 8 rfl (by decide) (by kernel_rfl) ?_
  refine a_on 3 rfl (by kernel_rfl) 10 rfl rfl (fun w_ h_ => o_fieldAddr (k := 0) (fun _ => by kernel_rfl) rfl ⟨rfl, rfl⟩) ?_
  refine a_on 4 rfl (by kernel_rfl) 10 rfl rfl (fun w_ h_ => o_load1 (v := (.int .i64 pl)) Tryz.underlying3 rfl rfl h_ (seg_sub 0 rfl) (CellsAt.one rfl) ⟨rfl, rfl⟩) ?_
  refine a_on 5 rfl (by kernel_rfl) 10 rfl rfl (fun w_ h_ => o_move (v := (.pointer (some ⟨mb, 0, none⟩))) rfl ⟨rfl, rfl⟩) ?_
  refine a_on 6 rfl (by kernel_rfl) 10 rfl rfl (fun w_ h_ => o_nilCheck rfl ⟨rfl, rfl⟩) ?_
  refine a_on 7 rfl (by kernel_rfl) 10 rfl rfl (fun w_ h_ => o_fieldAddr (k := 0) (fun _ => by kernel_rfl) rfl ⟨rfl, rfl⟩) ?_
  refine a_on 8 rfl (by kernel_rfl) 10 rfl rfl (fun w_ h_ => o_fieldAddr (k := 0) (fun _ => by kernel_rfl) rfl ⟨rfl, rfl⟩) ?_
  refine a_on 9 rfl (by kernel_rfl) 10 rfl rfl (fun w_ h_ => o_fieldAddr (k := 0) (fun _ => by kernel_rfl) rfl ⟨rfl, rfl⟩) ?_
  refine a_on 10 rfl (by kernel_rfl) 10 rfl rfl (fun w_ h_ => o_load1 (v := (.int .i64 h.st)) Tryz.underlying3 rfl rfl h_ (seg_sub 1 rfl) (CellsAt.one rfl) ⟨rfl, rfl⟩) ?_
  have hH8 : Has E { w3 with drawn := w3.drawn + 1 } [[Hp.one b2 (.cells #[(.int .i64 pl), (.int .i64 pn)] 50 (0, 0))], [Hp.one mb (.cells #[(.int .i64 h.st), (.int .i64 h.cut), (.int .i64 h.seq), (.int .i64 h.ep), (.int .i64 h.cut), (.int .i64 h.st), (.int .i64 h.mrk), (.pointer (some ⟨db, 0, none⟩))] 95 (0, 0))]] := ((hH7.front 3 rfl).front 1 rfl).first 2 rfl
  refine a_done (by kernel_rfl) hH8 ?_
  refine r_on 11 rfl (by kernel_rfl) 10 rfl rfl (o_lss (a := pl) (b := h.st) rfl rfl ?_)
  refine r_op 12 rfl (by kernel_rfl) (o_pick_f (u := (.bool (decide (pl < h.st)))) rfl rfl ?_)
  refine r_op 13 rfl (by kernel_rfl) (o_move (v := (.bool (decide (pl < h.st)))) rfl ?_)
  refine Rest.phaseA (fun w_ => Has E w_ [[Hp.one b2 (.cells #[(.int .i64 pl), (.int .i64 pn)] 50 (0, 0))], [Hp.one mb (.cells #[(.int .i64 h.st), (.int .i64 h.cut), (.int .i64 h.seq), (.int .i64 h.ep), (.int .i64 h.cut), (.int .i64 h.st), (.int .i64 h.mrk), (.pointer (some ⟨db, 0, none⟩))] 95 (0, 0))]]) 14 22 8 rfl (by decide) (by kernel_rfl) ?_
  by_cases h9 : pl < h.st
  · -- pl < h.st
    exfalso; omega
  · -- not: pl < h.st
    refine a_on 14 rfl (by kernel_rfl) 21 rfl (congrArg Value.bool (decide_eq_false h9)) (fun w_ h_ => o_fieldAddr (k := 1) (fun _ => by kernel_rfl) rfl ⟨rfl, rfl⟩) ?_
    refine a_on 15 rfl (by kernel_rfl) 21 rfl (congrArg Value.bool (decide_eq_false h9)) (fun w_ h_ => o_load1 (v := (.int .i64 pn)) Tryz.underlying3 rfl rfl h_ (seg_sub 0 rfl) (CellsAt.one rfl) ⟨rfl, rfl⟩) ?_
    refine a_on 16 rfl (by kernel_rfl) 21 rfl (congrArg Value.bool (decide_eq_false h9)) (fun w_ h_ => o_move (v := (.pointer (some ⟨mb, 0, none⟩))) rfl ⟨rfl, rfl⟩) ?_
    refine a_on 17 rfl (by kernel_rfl) 21 rfl (congrArg Value.bool (decide_eq_false h9)) (fun w_ h_ => o_nilCheck rfl ⟨rfl, rfl⟩) ?_
    refine a_on 18 rfl (by kernel_rfl) 21 rfl (congrArg Value.bool (decide_eq_false h9)) (fun w_ h_ => o_fieldAddr (k := 0) (fun _ => by kernel_rfl) rfl ⟨rfl, rfl⟩) ?_
    refine a_on 19 rfl (by kernel_rfl) 21 rfl (congrArg Value.bool (decide_eq_false h9)) (fun w_ h_ => o_fieldAddr (k := 0) (fun _ => by kernel_rfl) rfl ⟨rfl, rfl⟩) ?_
    refine a_on 20 rfl (by kernel_rfl) 21 rfl (congrArg Value.bool (decide_eq_false h9)) (fun w_ h_ => o_fieldAddr (k := 1) (fun _ => by kernel_rfl) rfl ⟨rfl, rfl⟩) ?_
    refine a_on 21 rfl (by kernel_rfl) 21 rfl (congrArg Value.bool (decide_eq_false h9)) (fun w_ h_ => o_load1 (v := (.int .i64 h.cut)) Tryz.underlying3 rfl rfl h_ (seg_sub 1 rfl) (CellsAt.one rfl) ⟨rfl, rfl⟩) ?_
    have hH10 : Has E { w3 with drawn := w3.drawn + 1 } [[Hp.one b2 (.cells #[(.int .i64 pl), (.int .i64 pn)] 50 (0, 0))], [Hp.one mb (.cells #[(.int .i64 h.st), (.int .i64 h.cut), (.int .i64 h.seq), (.int .i64 h.ep), (.int .i64 h.cut), (.int .i64 h.st), (.int .i64 h.mrk), (.pointer (some ⟨db, 0, none⟩))] 95 (0, 0))]] := ((hH7.front 3 rfl).front 1 rfl).first 2 rfl
    refine a_done (by kernel_rfl) hH10 ?_
    refine r_on 22 rfl (by kernel_rfl) 21 rfl (congrArg Value.bool (decide_eq_false h9)) (o_lss (a := pn) (b := h.cut) rfl rfl ?_)
    refine r_op 23 rfl (by kernel_rfl) (o_pick_f (u := (.bool (decide (pn < h.cut)))) ((rfl : _ = _).trans (congrArg Value.bool (decide_eq_false h9))) rfl ?_)
    refine r_op 24 rfl (by kernel_rfl) (o_assign (v := (.bool (decide (pn < h.cut)))) rfl ?_)
    refine Rest.done (by kernel_rfl) ?_
    refine t_norm (hK6 _ _ ?_)
    refine c_cond rfl (fun h11 => ?_) (fun h11 => ?_)
    · -- pn < h.cut
      exfalso; omega
    · -- not: pn < h.cut
      refine wp_seq_k fun K12 hK12 => ?_
      refine Rest.region mixed (by kernel_rfl) ?_
      have hH13 : Has E { { w3 with drawn := w3.drawn + 1 } with drawn := { w3 with drawn := w3.drawn + 1 }.drawn + 1 } [[Hp.one b2 (.cells #[(.int .i64 pl), (.int .i64 pn)] 50 (0, 0))], sg, [Hp.one pb (.cells #[(.bool p.off), (.bool p.armed), (.int .i64 p.left), (.int .i64 p.uses)] 78 (0, 0))], [Hp.one mb (.cells #[(.int .i64 h.st), (.int .i64 h.cut), (.int .i64 h.seq), (.int .i64 h.ep), (.int .i64 h.cut), (.int .i64 h.st), (.int .i64 h.mrk), (.pointer (some ⟨db, 0, none⟩))] 95 (0, 0))], R] := Has0.drew hH7 _
      refine Rest.phaseA (fun w_ => Has E w_ [[Hp.one b2 (.cells #[(.int .i64 pl), (.int .i64 pn)] 50 (0, 0))], [Hp.one mb (.cells #[(.int .i64 h.st), (.int .i64 h.cut), (.int .i64 h.seq), (.int .i64 h.ep), (.int .i64 h.cut), (.int .i64 h.st), (.int .i64 h.mrk), (.pointer (some ⟨db, 0, none⟩))] 95 (0, 0))]]) 0 6 6 rfl (by decide) (by kernel_rfl) ?_
      refine a_op 0 rfl (by kernel_rfl) (fun w_ h_ => o_loadN (cs := [(.int .i64 pl), (.int .i64 pn)]) Tryz.underlying50 rfl ti50 rfl h_ (seg_sub 0 rfl) (CellsAt.one rfl) ⟨rfl, rfl⟩) ?_
      refine a_op 1 rfl (by kernel_rfl) (fun w_ h_ => o_move (v := (.pointer (some ⟨mb, 0, none⟩))) rfl ⟨rfl, rfl⟩) ?_
      refine a_op 2 rfl (by kernel_rfl) (fun w_ h_ => o_nilCheck rfl ⟨rfl, rfl⟩) ?_
      refine a_op 3 rfl (by kernel_rfl) (fun w_ h_ => o_fieldAddr (k := 0) (fun _ => by kernel_rfl) rfl ⟨rfl, rfl⟩) ?_
      refine a_op 4 rfl (by kernel_rfl) (fun w_ h_ => o_fieldAddr (k := 0) (fun _ => by kernel_rfl) rfl ⟨rfl, rfl⟩) ?_
      refine a_op 5 rfl (by kernel_rfl) (fun w_ h_ => o_loadN (cs := [(.int .i64 h.st), (.int .i64 h.cut)]) Tryz.underlying50 rfl ti50 rfl h_ (seg_sub 1 rfl) (CellsAt.one rfl) ⟨rfl, rfl⟩) ?_
      have hH14 : Has E { { w3 with drawn := w3.drawn + 1 } with drawn := { w3 with drawn := w3.drawn + 1 }.drawn + 1 } [[Hp.one b2 (.cells #[(.int .i64 pl), (.int .i64 pn)] 50 (0, 0))], [Hp.one mb (.cells #[(.int .i64 h.st), (.int .i64 h.cut), (.int .i64 h.seq), (.int .i64 h.ep), (.int .i64 h.cut), (.int .i64 h.st), (.int .i64 h.mrk), (.pointer (some ⟨db, 0, none⟩))] 95 (0, 0))]] := ((hH13.front 3 rfl).front 1 rfl).first 2 rfl
      refine a_done (by kernel_rfl) hH14 ?_
      refine r_op 6 rfl (by kernel_rfl) (o_eql50 pl pn h.st h.cut rfl rfl ?_)
      refine r_op 7 rfl (by kernel_rfl) (o_assign (v := (.bool (eqv50 pl pn h.st h.cut))) rfl ?_)
      refine Rest.done (by kernel_rfl) ?_
      refine t_norm (hK12 _ _ ?_)
      refine c_condb rfl (fun h15 => ?_) (fun h15 => ?_)
      · -- eqv50 pl pn h.st h.cut
        exact absurd ((eqv50_iff _ _ _ _).1 h15) hne
      · -- not: eqv50 pl pn h.st h.cut
        refine wp_skip ?_
        refine b_norm ?_
        refine t_norm (hK5 _ _ ?_)
        refine wp_seq_k fun K16 hK16 => ?_
        refine Rest.region mixed (by kernel_rfl) ?_
        have hH17 : Has E { { { w3 with drawn := w3.drawn + 1 } with drawn := { w3 with drawn := w3.drawn + 1 }.drawn + 1 } with drawn := { { w3 with drawn := w3.drawn + 1 } with drawn := { w3 with drawn := w3.drawn + 1 }.drawn + 1 }.drawn + 1 } [[Hp.one b2 (.cells #[(.int .i64 pl), (.int .i64 pn)] 50 (0, 0))], sg, [Hp.one pb (.cells #[(.bool p.off), (.bool p.armed), (.int .i64 p.left), (.int .i64 p.uses)] 78 (0, 0))], [Hp.one mb (.cells #[(.int .i64 h.st), (.int .i64 h.cut), (.int .i64 h.seq), (.int .i64 h.ep), (.int .i64 h.cut), (.int .i64 h.st), (.int .i64 h.mrk), (.pointer (some ⟨db, 0, none⟩))] 95 (0, 0))], R] := Has0.drew hH13 _
        refine Rest.phaseA (fun w_ => Has E w_ [[Hp.one b2 (.cells #[(.int .i64 pl), (.int .i64 pn)] 50 (0, 0))], [Hp.one mb (.cells #[(.int .i64 h.st), (.int .i64 h.cut), (.int .i64 h.seq), (.int .i64 h.ep), (.int .i64 h.cut), (.int .i64 h.st), (.int .i64 h.mrk), (.pointer (some ⟨db, 0, none⟩))] 95 (0, 0))]]) 0 21 21 rfl (by decide) (by kernel_rfl) ?_
        refine a_op 0 rfl (by kernel_rfl) (fun w_ h_ => o_move (v := (.pointer (some ⟨mb, 0, none⟩))) rfl ⟨rfl, rfl⟩) ?_
        refine a_op 1 rfl (by kernel_rfl) (fun w_ h_ => o_nilCheck rfl ⟨rfl, rfl⟩) ?_
        refine a_op 2 rfl (by kernel_rfl) (fun w_ h_ => o_fieldAddr (k := 7) (fun _ => by kernel_rfl) rfl ⟨rfl, rfl⟩) ?_
        refine a_op 3 rfl (by kernel_rfl) (fun w_ h_ => o_load1 (v := (.pointer (some ⟨db, 0, none⟩))) Tryz.underlying34 rfl rfl h_ (seg_sub 1 rfl) (CellsAt.one rfl) ⟨rfl, rfl⟩) ?_
        refine a_op 4 rfl (by kernel_rfl) (fun w_ h_ => o_move (v := (.pointer (some ⟨mb, 0, none⟩))) rfl ⟨rfl, rfl⟩) ?_
        refine a_op 5 rfl (by kernel_rfl) (fun w_ h_ => o_nilCheck rfl ⟨rfl, rfl⟩) ?_
        refine a_op 6 rfl (by kernel_rfl) (fun w_ h_ => o_fieldAddr (k := 0) (fun _ => by kernel_rfl) rfl ⟨rfl, rfl⟩) ?_
        refine a_op 7 rfl (by kernel_rfl) (fun w_ h_ => o_fieldAddr (k := 2) (fun _ => by kernel_rfl) rfl ⟨rfl, rfl⟩) ?_
        refine a_op 8 rfl (by kernel_rfl) (fun w_ h_ => o_fieldAddr (k := 2) (fun _ => by kernel_rfl) rfl ⟨rfl, rfl⟩) ?_
        refine a_op 9 rfl (by kernel_rfl) (fun w_ h_ => o_load1 (v := (.int .i64 h.seq)) Tryz.underlying3 rfl rfl h_ (seg_sub 1 rfl) (CellsAt.one rfl) ⟨rfl, rfl⟩) ?_
        refine a_op 10 rfl (by kernel_rfl) (fun w_ h_ => o_fieldAddr (k := 0) (fun _ => by kernel_rfl) rfl ⟨rfl, rfl⟩) ?_
        refine a_op 11 rfl (by kernel_rfl) (fun w_ h_ => o_load1 (v := (.int .i64 pl)) Tryz.underlying3 rfl rfl h_ (seg_sub 0 rfl) (CellsAt.one rfl) ⟨rfl, rfl⟩) ?_
        refine a_op 12 rfl (by kernel_rfl) (fun w_ h_ => o_fieldAddr (k := 1) (fun _ => by kernel_rfl) rfl ⟨rfl, rfl⟩) ?_
        refine a_op 13 rfl (by kernel_rfl) (fun w_ h_ => o_load1 (v := (.int .i64 pn)) Tryz.underlying3 rfl rfl h_ (seg_sub 0 rfl) (CellsAt.one rfl) ⟨rfl, rfl⟩) ?_
        refine a_op 14 rfl (by kernel_rfl) (fun w_ h_ => o_sight (v := (.agg #[(.int .i64 h.seq), (.int .i64 0), (.int .i64 pn), (.int .i64 pl), (.int .i64 0)])) (fun _ => by kernel_rfl) ⟨rfl, rfl⟩) ?_
        have hH18 : Has E { { { w3 with drawn := w3.drawn + 1 } with drawn := { w3 with drawn := w3.drawn + 1 }.drawn + 1 } with drawn := { { w3 with drawn := w3.drawn + 1 } with drawn := { w3 with drawn := w3.drawn + 1 }.drawn + 1 }.drawn + 1 } [[Hp.one b2 (.cells #[(.int .i64 pl), (.int .i64 pn)] 50 (0, 0))], [Hp.one mb (.cells #[(.int .i64 h.st), (.int .i64 h.cut), (.int .i64 h.seq), (.int .i64 h.ep), (.int .i64 h.cut), (.int .i64 h.st), (.int .i64 h.mrk), (.pointer (some ⟨db, 0, none⟩))] 95 (0, 0))]] := ((hH17.front 3 rfl).front 1 rfl).first 2 rfl
        refine a_two 15 19 (by kernel_rfl) hH18 ?_ ?_
        · -- first operation 15
          have hH19 : Has E { { { w3 with drawn := w3.drawn + 1 } with drawn := { w3 with drawn := w3.drawn + 1 }.drawn + 1 } with drawn := { { w3 with drawn := w3.drawn + 1 } with drawn := { w3 with drawn := w3.drawn + 1 }.drawn + 1 }.drawn + 1 } [[Hp.one b2 (.cells #[(.int .i64 pl), (.int .i64 pn)] 50 (0, 0))], [Hp.one mb (.cells #[(.int .i64 h.st), (.int .i64 h.cut), (.int .i64 h.seq), (.int .i64 h.ep), (.int .i64 h.cut), (.int .i64 h.st), (.int .i64 h.mrk), (.pointer (some ⟨db, 0, none⟩))] 95 (0, 0))]] := ((hH17.front 3 rfl).front 1 rfl).first 2 rfl
          refine ok_w 15 rfl (o_callf (vs := #[(.pointer (some ⟨db, 0, none⟩)), (.int .i64 0), (.agg #[(.int .i64 h.seq), (.int .i64 0), (.int .i64 pn), (.int .i64 pl), (.int .i64 0)])]) ca26 rfl (args3 rfl rfl rfl) (hsave_no ((hH17.front 2 rfl).front 2 rfl).all2 hd (hg.mono (seg_sub 2 rfl)) hp hq hla (x := 0) (h := (Hd.mk h.seq 0 pn pl 0)) hT) ?_)
          rintro _ w24 ⟨sg20, rfl, hd21, hX22⟩
          refine ⟨_, rfl, ?_⟩
          have hH23 : Has E w24 [sg20, [Hp.one pb (.cells #[(.bool p.off), (.bool p.armed), (.int .i64 p.left), (.int .i64 p.uses)] 78 (0, 0))], [Hp.one b2 (.cells #[(.int .i64 pl), (.int .i64 pn)] 50 (0, 0))], [Hp.one mb (.cells #[(.int .i64 h.st), (.int .i64 h.cut), (.int .i64 h.seq), (.int .i64 h.ep), (.int .i64 h.cut), (.int .i64 h.st), (.int .i64 h.mrk), (.pointer (some ⟨db, 0, none⟩))] 95 (0, 0))], R] := hX22.of_all2
          refine a_op 16 rfl (by kernel_rfl) (fun w_ h_ => o_move (v := (.tuple #[(.agg #[(.int .i64 hdZ.seq), (.int .i64 hdZ.ep), (.int .i64 hdZ.cut), (.int .i64 hdZ.st), (.int .i64 hdZ.mrk)]), (.int .i64 (1 : Int))])) rfl ⟨rfl, rfl⟩) ?_
          refine a_op 17 rfl (by kernel_rfl) (fun w_ h_ => o_extract (v := (.agg #[(.int .i64 hdZ.seq), (.int .i64 hdZ.ep), (.int .i64 hdZ.cut), (.int .i64 hdZ.st), (.int .i64 hdZ.mrk)])) rfl rfl ⟨rfl, rfl⟩) ?_
          refine a_op 18 rfl (by kernel_rfl) (fun w_ h_ => o_extract (v := (.int .i64 (1 : Int))) rfl rfl ⟨rfl, rfl⟩) ?_
          have hH25 : Has E w24 [[Hp.one b2 (.cells #[(.int .i64 pl), (.int .i64 pn)] 50 (0, 0))], [Hp.one mb (.cells #[(.int .i64 h.st), (.int .i64 h.cut), (.int .i64 h.seq), (.int .i64 h.ep), (.int .i64 h.cut), (.int .i64 h.st), (.int .i64 h.mrk), (.pointer (some ⟨db, 0, none⟩))] 95 (0, 0))]] := ((hH23.front 3 rfl).front 3 rfl).first 2 rfl
          refine a_w 19 rfl (by kernel_rfl) hH25 (o_alloc (cs := #[(.int .i64 0), (.int .i64 0), (.int .i64 0), (.int .i64 0), (.int .i64 0)]) ti27 rfl hH23 fun b26 w27 hH28 => ?_)
          have hH29 : Has E w27 [[Hp.one b2 (.cells #[(.int .i64 pl), (.int .i64 pn)] 50 (0, 0))], [Hp.one mb (.cells #[(.int .i64 h.st), (.int .i64 h.cut), (.int .i64 h.seq), (.int .i64 h.ep), (.int .i64 h.cut), (.int .i64 h.st), (.int .i64 h.mrk), (.pointer (some ⟨db, 0, none⟩))] 95 (0, 0))]] := ((hH28.front 4 rfl).front 4 rfl).first 2 rfl
          refine a_we 20 rfl (by kernel_rfl) hH29 (o_storeN (vs := [(.int .i64 hdZ.seq), (.int .i64 hdZ.ep), (.int .i64 hdZ.cut), (.int .i64 hdZ.st), (.int .i64 hdZ.mrk)]) (c' := #[(.int .i64 hdZ.seq), (.int .i64 hdZ.ep), (.int .i64 hdZ.cut), (.int .i64 hdZ.st), (.int .i64 hdZ.mrk)]) ti27 rfl rfl rfl rfl (by intro u hu; simp only [List.mem_cons, List.not_mem_nil, or_false] at hu; rcases hu with rfl | rfl | rfl | rfl | rfl <;> first | rfl) (by simp) (by kernel_rfl) (hH28.front 0 rfl) fun w30 hH31 => ?_)
          have hH32 : Has E w30 [[Hp.one b2 (.cells #[(.int .i64 pl), (.int .i64 pn)] 50 (0, 0))], [Hp.one mb (.cells #[(.int .i64 h.st), (.int .i64 h.cut), (.int .i64 h.seq), (.int .i64 h.ep), (.int .i64 h.cut), (.int .i64 h.st), (.int .i64 h.mrk), (.pointer (some ⟨db, 0, none⟩))] 95 (0, 0))]] := ((hH31.front 4 rfl).front 4 rfl).first 2 rfl
          refine a_done (by kernel_rfl) hH32 ?_
          refine r_op 21 rfl (by kernel_rfl) (o_assign (v := (.int .i64 (1 : Int))) rfl ?_)
          refine Rest.done (by kernel_rfl) ?_
          refine t_norm (hK16 _ _ ?_)
          refine wp_seq_k fun K33 hK33 => ?_
          refine wp_seq_k fun K34 hK34 => ?_
          refine c_region ?_
          refine s_op (o_move (v := (.int .i64 (1 : Int))) rfl ?_)
          refine s_op (o_eql (a := (1 : Int)) (b := 0) rfl rfl ?_)
          refine s_nil ?_
          refine t_norm (hK34 _ _ ?_)
          refine c_cond rfl (fun h35 => ?_) (fun h35 => ?_)
          · -- (1 : Int) = 0
            exact absurd h35 (by decide)
          · -- not: (1 : Int) = 0
            refine wp_skip ?_
            refine t_norm (hK33 _ _ ?_)
            refine wp_seq_k fun K36 hK36 => ?_
            refine c_region ?_
            refine s_op (o_move (v := (.int .i64 (1 : Int))) rfl ?_)
            refine s_op (o_assign (v := (.int .i64 (1 : Int))) rfl ?_)
            refine s_nil ?_
            refine t_norm (hK36 _ _ ?_)
            refine wp_ret ?_
            refine c_ret1 Tryz.results24  (v := (.int .i64 (1 : Int))) rfl ?_
            have hH37 : Has E w30 [sg20, [Hp.one pb (.cells #[(.bool p.off), (.bool p.armed), (.int .i64 p.left), (.int .i64 p.uses)] 78 (0, 0))], [Hp.one mb (.cells #[(.int .i64 h.st), (.int .i64 h.cut), (.int .i64 h.seq), (.int .i64 h.ep), (.int .i64 h.cut), (.int .i64 h.st), (.int .i64 h.mrk), (.pointer (some ⟨db, 0, none⟩))] 95 (0, 0))], R] := ((((hH31.front 5 rfl).front 5 rfl).front 4 rfl).front 4 rfl).first 4 rfl
            exact ⟨_, rfl, hd21, hH37⟩
        · -- first operation 19
          have hH38 : Has E { { { w3 with drawn := w3.drawn + 1 } with drawn := { w3 with drawn := w3.drawn + 1 }.drawn + 1 } with drawn := { { w3 with drawn := w3.drawn + 1 } with drawn := { w3 with drawn := w3.drawn + 1 }.drawn + 1 }.drawn + 1 } [[Hp.one b2 (.cells #[(.int .i64 pl), (.int .i64 pn)] 50 (0, 0))], [Hp.one mb (.cells #[(.int .i64 h.st), (.int .i64 h.cut), (.int .i64 h.seq), (.int .i64 h.ep), (.int .i64 h.cut), (.int .i64 h.st), (.int .i64 h.mrk), (.pointer (some ⟨db, 0, none⟩))] 95 (0, 0))]] := ((hH17.front 3 rfl).front 1 rfl).first 2 rfl
          refine ok_w 19 rfl (o_alloc (cs := #[(.int .i64 0), (.int .i64 0), (.int .i64 0), (.int .i64 0), (.int .i64 0)]) ti27 rfl hH17 fun b39 w40 hH41 => ?_)
          have hH42 : Has E w40 [[Hp.one b2 (.cells #[(.int .i64 pl), (.int .i64 pn)] 50 (0, 0))], [Hp.one mb (.cells #[(.int .i64 h.st), (.int .i64 h.cut), (.int .i64 h.seq), (.int .i64 h.ep), (.int .i64 h.cut), (.int .i64 h.st), (.int .i64 h.mrk), (.pointer (some ⟨db, 0, none⟩))] 95 (0, 0))]] := ((hH41.front 4 rfl).front 2 rfl).first 2 rfl
          refine a_w 15 rfl (by kernel_rfl) hH42 (o_callf (vs := #[(.pointer (some ⟨db, 0, none⟩)), (.int .i64 0), (.agg #[(.int .i64 h.seq), (.int .i64 0), (.int .i64 pn), (.int .i64 pl), (.int .i64 0)])]) ca26 rfl (args3 rfl rfl rfl) (hsave_no ((hH41.front 3 rfl).front 3 rfl).all2 hd (hg.mono (seg_sub 3 rfl)) hp hq hla (x := 0) (h := (Hd.mk h.seq 0 pn pl 0)) hT) ?_)
          rintro _ w47 ⟨sg43, rfl, hd44, hX45⟩
          refine ⟨_, rfl, ?_⟩
          have hH46 : Has E w47 [sg43, [Hp.one pb (.cells #[(.bool p.off), (.bool p.armed), (.int .i64 p.left), (.int .i64 p.uses)] 78 (0, 0))], [Hp.one b39 (.cells #[(.int .i64 0), (.int .i64 0), (.int .i64 0), (.int .i64 0), (.int .i64 0)] 27 (0, 0))], [Hp.one b2 (.cells #[(.int .i64 pl), (.int .i64 pn)] 50 (0, 0))], [Hp.one mb (.cells #[(.int .i64 h.st), (.int .i64 h.cut), (.int .i64 h.seq), (.int .i64 h.ep), (.int .i64 h.cut), (.int .i64 h.st), (.int .i64 h.mrk), (.pointer (some ⟨db, 0, none⟩))] 95 (0, 0))], R] := hX45.of_all2
          refine a_op 16 rfl (by kernel_rfl) (fun w_ h_ => o_move (v := (.tuple #[(.agg #[(.int .i64 hdZ.seq), (.int .i64 hdZ.ep), (.int .i64 hdZ.cut), (.int .i64 hdZ.st), (.int .i64 hdZ.mrk)]), (.int .i64 (1 : Int))])) rfl ⟨rfl, rfl⟩) ?_
          refine a_op 17 rfl (by kernel_rfl) (fun w_ h_ => o_extract (v := (.agg #[(.int .i64 hdZ.seq), (.int .i64 hdZ.ep), (.int .i64 hdZ.cut), (.int .i64 hdZ.st), (.int .i64 hdZ.mrk)])) rfl rfl ⟨rfl, rfl⟩) ?_
          refine a_op 18 rfl (by kernel_rfl) (fun w_ h_ => o_extract (v := (.int .i64 (1 : Int))) rfl rfl ⟨rfl, rfl⟩) ?_
          have hH48 : Has E w47 [[Hp.one b2 (.cells #[(.int .i64 pl), (.int .i64 pn)] 50 (0, 0))], [Hp.one mb (.cells #[(.int .i64 h.st), (.int .i64 h.cut), (.int .i64 h.seq), (.int .i64 h.ep), (.int .i64 h.cut), (.int .i64 h.st), (.int .i64 h.mrk), (.pointer (some ⟨db, 0, none⟩))] 95 (0, 0))]] := ((hH46.front 4 rfl).front 4 rfl).first 2 rfl
          refine a_we 20 rfl (by kernel_rfl) hH48 (o_storeN (vs := [(.int .i64 hdZ.seq), (.int .i64 hdZ.ep), (.int .i64 hdZ.cut), (.int .i64 hdZ.st), (.int .i64 hdZ.mrk)]) (c' := #[(.int .i64 hdZ.seq), (.int .i64 hdZ.ep), (.int .i64 hdZ.cut), (.int .i64 hdZ.st), (.int .i64 hdZ.mrk)]) ti27 rfl rfl rfl rfl (by intro u hu; simp only [List.mem_cons, List.not_mem_nil, or_false] at hu; rcases hu with rfl | rfl | rfl | rfl | rfl <;> first | rfl) (by simp) (by kernel_rfl) (hH46.front 2 rfl) fun w49 hH50 => ?_)
          have hH51 : Has E w49 [[Hp.one b2 (.cells #[(.int .i64 pl), (.int .i64 pn)] 50 (0, 0))], [Hp.one mb (.cells #[(.int .i64 h.st), (.int .i64 h.cut), (.int .i64 h.seq), (.int .i64 h.ep), (.int .i64 h.cut), (.int .i64 h.st), (.int .i64 h.mrk), (.pointer (some ⟨db, 0, none⟩))] 95 (0, 0))]] := ((hH50.front 4 rfl).front 4 rfl).first 2 rfl
          refine a_done (by kernel_rfl) hH51 ?_
          refine r_op 21 rfl (by kernel_rfl) (o_assign (v := (.int .i64 (1 : Int))) rfl ?_)
          refine Rest.done (by kernel_rfl) ?_
          refine t_norm (hK16 _ _ ?_)
          refine wp_seq_k fun K52 hK52 => ?_
          refine wp_seq_k fun K53 hK53 => ?_
          refine c_region ?_
          refine s_op (o_move (v := (.int .i64 (1 : Int))) rfl ?_)
          refine s_op (o_eql (a := (1 : Int)) (b := 0) rfl rfl ?_)
          refine s_nil ?_
          refine t_norm (hK53 _ _ ?_)
          refine c_cond rfl (fun h54 => ?_) (fun h54 => ?_)
          · -- (1 : Int) = 0
            exact absurd h54 (by decide)
          · -- not: (1 : Int) = 0
            refine wp_skip ?_
            refine t_norm (hK52 _ _ ?_)
            refine wp_seq_k fun K55 hK55 => ?_
            refine c_region ?_
            refine s_op (o_move (v := (.int .i64 (1 : Int))) rfl ?_)
            refine s_op (o_assign (v := (.int .i64 (1 : Int))) rfl ?_)
            refine s_nil ?_
            refine t_norm (hK55 _ _ ?_)
            refine wp_ret ?_
            refine c_ret1 Tryz.results24  (v := (.int .i64 (1 : Int))) rfl ?_
            have hH56 : Has E w49 [sg43, [Hp.one pb (.cells #[(.bool p.off), (.bool p.armed), (.int .i64 p.left), (.int .i64 p.uses)] 78 (0, 0))], [Hp.one mb (.cells #[(.int .i64 h.st), (.int .i64 h.cut), (.int .i64 h.seq), (.int .i64 h.ep), (.int .i64 h.cut), (.int .i64 h.st), (.int .i64 h.mrk), (.pointer (some ⟨db, 0, none⟩))] 95 (0, 0))], R] := ((((hH50.front 5 rfl).front 5 rfl).front 4 rfl).front 4 rfl).first 4 rfl
            exact ⟨_, rfl, hd44, hH56⟩
end Go.Q
namespace Go.Q
open Go.Proofs
set_option linter.unusedVariables false
set_option maxRecDepth 100000
attribute [local irreducible] wpList OK Code.wp
set_option maxHeartbeats 4000000 in
theorem small19_c {E w : World} {R : List Hp} {n : Int}  (hH : Has E w [R]) :
    Calls Tryz.prog 28 #[(.int .i64 n)] w fun e w' => e = .returned (.bool (decide (0 ≤ n ∧ n ≤ 4611686018427387903))) ∧ Has E w' [R] := by
  refine c_enter (args := [(.int .i64 n)]) Tryz.func28 rfl Tryz.ntmps28 (by simp) ?_
  refine wp_seq_k fun K1 hK1 => ?_
  refine c_region ?_
  refine s_op (o_assign (v := (.bool false)) rfl ?_)
  refine s_nil ?_
  refine t_norm (hK1 _ _ ?_)
  refine wp_seq_k fun K2 hK2 => ?_
  refine c_region ?_
  refine s_op (o_move (v := (.int .i64 n)) rfl ?_)
  refine s_op (o_geq (a := n) (b := 0) rfl rfl ?_)
  refine s_op (o_move (v := (.bool (decide (0 ≤ n)))) rfl ?_)
  by_cases h3 : 0 ≤ n
  · -- 0 ≤ n
    refine s_on 5 rfl (congrArg Value.bool (decide_eq_true h3)) (o_move (v := (.int .i64 n)) rfl ?_)
    refine s_on 5 rfl (congrArg Value.bool (decide_eq_true h3)) (o_leq (a := n) (b := 4611686018427387903) rfl rfl ?_)
    refine s_op (o_pick_t (u := (.bool (decide (n ≤ 4611686018427387903)))) ((rfl : _ = _).trans (congrArg Value.bool (decide_eq_true h3))) rfl ?_)
    refine s_op (o_assign (v := (.bool (decide (n ≤ 4611686018427387903)))) rfl ?_)
    refine s_nil ?_
    refine t_norm (hK2 _ _ ?_)
    refine wp_ret ?_
    refine c_ret1 Tryz.results28  (v := (.bool (decide (n ≤ 4611686018427387903)))) rfl ?_
    have q4 : decide (0 ≤ n ∧ n ≤ 4611686018427387903) = decide (n ≤ 4611686018427387903) := by first | (rw [decide_eq_decide]; omega) | (rw [decide_eq_false_iff_not]; omega)
    exact ⟨by rw [q4], hH⟩
  · -- not: 0 ≤ n
    refine s_off (b' := false) 5 rfl (congrArg Value.bool (decide_eq_false h3)) rfl ?_
    refine s_off (b' := false) 5 rfl (congrArg Value.bool (decide_eq_false h3)) rfl ?_
    refine s_op (o_pick_f (u := (.bool false)) ((rfl : _ = _).trans (congrArg Value.bool (decide_eq_false h3))) rfl ?_)
    refine s_op (o_assign (v := (.bool false)) rfl ?_)
    refine s_nil ?_
    refine t_norm (hK2 _ _ ?_)
    refine wp_ret ?_
    refine c_ret1 Tryz.results28  (v := (.bool false)) rfl ?_
    have q5 : decide (0 ≤ n ∧ n ≤ 4611686018427387903) = false := by first | (rw [decide_eq_decide]; omega) | (rw [decide_eq_false_iff_not]; omega)
    exact ⟨by rw [q5], hH⟩
end Go.Q
namespace Go.Q
open Go.Proofs
set_option linter.unusedVariables false
set_option maxRecDepth 100000
attribute [local irreducible] wpList OK Code.wp
set_option maxHeartbeats 4000000 in
theorem keep_late {E w : World} {R sg : List Hp} {pb db mb : Nat} {p : Pw} {la : List Bs} {h : Hd} (hH : Has E w [sg, [Hp.one pb (.cells #[(.bool p.off), (.bool p.armed), (.int .i64 p.left), (.int .i64 p.uses)] 78 (0, 0))], [Hp.one mb (.cells #[(.int .i64 h.st), (.int .i64 h.cut), (.int .i64 h.seq), (.int .i64 h.ep), (.int .i64 h.cut), (.int .i64 h.st), (.int .i64 h.mrk), (.pointer (some ⟨db, 0, none⟩))] 95 (0, 0))], R]) (hd : DevAt pb sg db la []) (hg : CellsAt R 0 0 nibV) (hp : PwOk p) (hq : PwOk (useS p)) (hla : la.length ≤ 4096) {pl pn : Int} (hge : h.st ≤ pl ∧ h.cut ≤ pn) (hne : ¬ (pl = h.st ∧ pn = h.cut)) (hT : svTry la.length 0 (hdK h pl pn)) (hb : ¬ (useB p = true ∧ useB (useS p) = true)) :
    Calls Tryz.prog 24 #[(.pointer (some ⟨mb, 0, none⟩)), (.agg #[(.int .i64 pl), (.int .i64 pn)])] w fun e w' => ∃ sg' p' lo', e = .returned (.int .i64 6) ∧ (p' = useS p ∨ p' = useS (useS p)) ∧ (lo' = [] ∨ lo' = [(svN 0 (hdK h pl pn), hdL (hdUp (hdK h pl pn)))]) ∧ DevAt pb sg' db la lo' ∧ Has E w' [sg', [Hp.one pb (.cells #[(.bool p'.off), (.bool p'.armed), (.int .i64 p'.left), (.int .i64 p'.uses)] 78 (0, 0))], [Hp.one mb (.cells #[(.int .i64 h.st), (.int .i64 h.cut), (.int .i64 h.seq), (.int .i64 h.ep), (.int .i64 h.cut), (.int .i64 h.st), (.int .i64 h.mrk), (.pointer (some ⟨db, 0, none⟩))] 95 (0, 0))], R] := by
  refine c_enter (args := [(.pointer (some ⟨mb, 0, none⟩)), (.agg #[(.int .i64 pl), (.int .i64 pn)])]) Tryz.func24 rfl Tryz.ntmps24 (by simp) ?_
  refine wp_seq_k fun K1 hK1 => ?_
  refine c_region ?_
  refine s_op (o_box (cs := #[(.int .i64 pl), (.int .i64 pn)]) rfl rfl hH fun b2 w3 hH4 => ?_)
  refine s_op (o_assign (v := (.int .i64 0)) rfl ?_)
  refine s_nil ?_
  refine t_norm (hK1 _ _ ?_)
  refine wp_seq_k fun K5 hK5 => ?_
  refine wp_block ?_
  refine wp_seq_k fun K6 hK6 => ?_
  refine Rest.region mixed (by kernel_rfl) ?_
  have hH7 : Has E { w3 with drawn := w3.drawn + 1 } [[Hp.one b2 (.cells #[(.int .i64 pl), (.int .i64 pn)] 50 (0, 0))], sg, [Hp.one pb (.cells #[(.bool p.off), (.bool p.armed), (.int .i64 p.left), (.int .i64 p.uses)] 78 (0, 0))], [Hp.one mb (.cells #[(.int .i64 h.st), (.int .i64 h.cut), (.int .i64 h.seq), (.int .i64 h.ep), (.int .i64 h.cut), (.int .i64 h.st), (.int .i64 h.mrk), (.pointer (some ⟨db, 0, none⟩))] 95 (0, 0))], R] := Has0.drew hH4 _
  refine r_op 0 rfl (by kernel_rfl) (o_move (v := (.pointer (some ⟨mb, 0, none⟩))) rfl ?_)
  refine r_op 1 rfl (by kernel_rfl) (o_pnil (p := some _) Tryz.underlying51 rfl rfl ?_)
  refine r_op 2 rfl (by kernel_rfl) (o_move (v := (.bool false)) rfl ?_)
  refine Rest.phaseA (fun w_ => Has E w_ [[Hp.one b2 (.cells #[(.int .i64 pl), (.int .i64 pn)] 50 (0, 0))], [Hp.one mb (.cells #[(.int .i64 h.st), (.int .i64 h.cut), (.int .i64 h.seq), (.int .i64 h.ep), (.int .i64 h.cut), (.int .i64 h.st), (.int .i64 h.mrk), (.pointer (some ⟨db, 0, none⟩))] 95 (0, 0))]]) 3 11 8 rfl (by decide) (by kernel_rfl) ?_
  refine a_on 3 rfl (by kernel_rfl) 10 rfl rfl (fun w_ h_ => o_fieldAddr (k := 0) (fun _ => by kernel_rfl) rfl ⟨rfl, rfl⟩) ?_
  refine a_on 4 rfl (by kernel_rfl) 10 rfl rfl (fun w_ h_ => o_load1 (v := (.int .i64 pl)) Tryz.underlying3 rfl rfl h_ (seg_sub 0 rfl) (CellsAt.one rfl) ⟨rfl, rfl⟩) ?_
  refine a_on 5 rfl (by kernel_rfl) 10 rfl rfl (fun w_ h_ => o_move (v := (.pointer (some ⟨mb, 0, none⟩))) rfl ⟨rfl, rfl⟩) ?_
  refine a_on 6 rfl (by kernel_rfl) 10 rfl rfl (fun w_ h_ => o_nilCheck rfl ⟨rfl, rfl⟩) ?_
  refine a_on 7 rfl (by kernel_rfl) 10 rfl rfl (fun w_ h_ => o_fieldAddr (k := 0) (fun _ => by kernel_rfl) rfl ⟨rfl, rfl⟩) ?_
  refine a_on 8 rfl (by kernel_rfl) 10 rfl rfl (fun w_ h_ => o_fieldAddr (k := 0) (fun _ => by kernel_rfl) rfl ⟨rfl, rfl⟩) ?_
  refine a_on 9 rfl (by kernel_rfl) 10 rfl rfl (fun w_ h_ => o_fieldAddr (k := 0) (fun _ => by kernel_rfl) rfl ⟨rfl, rfl⟩) ?_
  refine a_on 10 rfl (by kernel_rfl) 10 rfl rfl (fun w_ h_ => o_load1 (v := (.int .i64 h.st)) Tryz.underlying3 rfl rfl h_ (seg_sub 1 rfl) (CellsAt.one rfl) ⟨rfl, rfl⟩) ?_
  have hH8 : Has E { w3 with drawn := w3.drawn + 1 } [[Hp.one b2 (.cells #[(.int .i64 pl), (.int .i64 pn)] 50 (0, 0))], [Hp.one mb (.cells #[(.int .i64 h.st), (.int .i64 h.cut), (.int .i64 h.seq), (.int .i64 h.ep), (.int .i64 h.cut), (.int .i64 h.st), (.int .i64 h.mrk), (.pointer (some ⟨db, 0, none⟩))] 95 (0, 0))]] := ((hH7.front 3 rfl).front 1 rfl).first 2 rfl
  refine a_done (by kernel_rfl) hH8 ?_
  refine r_on 11 rfl (by kernel_rfl) 10 rfl rfl (o_lss (a := pl) (b := h.st) rfl rfl ?_)
  refine r_op 12 rfl (by kernel_rfl) (o_pick_f (u := (.bool (decide (pl < h.st)))) rfl rfl ?_)
  refine r_op 13 rfl (by kernel_rfl) (o_move (v := (.bool (decide (pl < h.st)))) rfl ?_)
  refine Rest.phaseA (fun w_ => Has E w_ [[Hp.one b2 (.cells #[(.int .i64 pl), (.int .i64 pn)] 50 (0, 0))], [Hp.one mb (.cells #[(.int .i64 h.st), (.int .i64 h.cut), (.int .i64 h.seq), (.int .i64 h.ep), (.int .i64 h.cut), (.int .i64 h.st), (.int .i64 h.mrk), (.pointer (some ⟨db, 0, none⟩))] 95 (0, 0))]]) 14 22 8 rfl (by decide) (by kernel_rfl) ?_
  by_cases h9 : pl < h.st
  · -- pl < h.st
    exfalso; omega
  · -- not: pl < h.st
    refine a_on 14 rfl (by kernel_rfl) 21 rfl (congrArg Value.bool (decide_eq_false h9)) (fun w_ h_ => o_fieldAddr (k := 1) (fun _ => by kernel_rfl) rfl ⟨rfl, rfl⟩) ?_
    refine a_on 15 rfl (by kernel_rfl) 21 rfl (congrArg Value.bool (decide_eq_false h9)) (fun w_ h_ => o_load1 (v := (.int .i64 pn)) Tryz.underlying3 rfl rfl h_ (seg_sub 0 rfl) (CellsAt.one rfl) ⟨rfl, rfl⟩) ?_
    refine a_on 16 rfl (by kernel_rfl) 21 rfl (congrArg Value.bool (decide_eq_false h9)) (fun w_ h_ => o_move (v := (.pointer (some ⟨mb, 0, none⟩))) rfl ⟨rfl, rfl⟩) ?_
    refine a_on 17 rfl (by kernel_rfl) 21 rfl (congrArg Value.bool (decide_eq_false h9)) (fun w_ h_ => o_nilCheck rfl ⟨rfl, rfl⟩) ?_
    refine a_on 18 rfl (by kernel_rfl) 21 rfl (congrArg Value.bool (decide_eq_false h9)) (fun w_ h_ => o_fieldAddr (k := 0) (fun _ => by kernel_rfl) rfl ⟨rfl, rfl⟩) ?_
    refine a_on 19 rfl (by kernel_rfl) 21 rfl (congrArg Value.bool (decide_eq_false h9)) (fun w_ h_ => o_fieldAddr (k := 0) (fun _ => by kernel_rfl) rfl ⟨rfl, rfl⟩) ?_
    refine a_on 20 rfl (by kernel_rfl) 21 rfl (congrArg Value.bool (decide_eq_false h9)) (fun w_ h_ => o_fieldAddr (k := 1) (fun _ => by kernel_rfl) rfl ⟨rfl, rfl⟩) ?_
    refine a_on 21 rfl (by kernel_rfl) 21 rfl (congrArg Value.bool (decide_eq_false h9)) (fun w_ h_ => o_load1 (v := (.int .i64 h.cut)) Tryz.underlying3 rfl rfl h_ (seg_sub 1 rfl) (CellsAt.one rfl) ⟨rfl, rfl⟩) ?_
    have hH10 : Has E { w3 with drawn := w3.drawn + 1 } [[Hp.one b2 (.cells #[(.int .i64 pl), (.int .i64 pn)] 50 (0, 0))], [Hp.one mb (.cells #[(.int .i64 h.st), (.int .i64 h.cut), (.int .i64 h.seq), (.int .i64 h.ep), (.int .i64 h.cut), (.int .i64 h.st), (.int .i64 h.mrk), (.pointer (some ⟨db, 0, none⟩))] 95 (0, 0))]] := ((hH7.front 3 rfl).front 1 rfl).first 2 rfl
    refine a_done (by kernel_rfl) hH10 ?_
    refine r_on 22 rfl (by kernel_rfl) 21 rfl (congrArg Value.bool (decide_eq_false h9)) (o_lss (a := pn) (b := h.cut) rfl rfl ?_)
    refine r_op 23 rfl (by kernel_rfl) (o_pick_f (u := (.bool (decide (pn < h.cut)))) ((rfl : _ = _).trans (congrArg Value.bool (decide_eq_false h9))) rfl ?_)
    refine r_op 24 rfl (by kernel_rfl) (o_assign (v := (.bool (decide (pn < h.cut)))) rfl ?_)
    refine Rest.done (by kernel_rfl) ?_
    refine t_norm (hK6 _ _ ?_)
    refine c_cond rfl (fun h11 => ?_) (fun h11 => ?_)
    · -- pn < h.cut
      exfalso; omega
    · -- not: pn < h.cut
      refine wp_seq_k fun K12 hK12 => ?_
      refine Rest.region mixed (by kernel_rfl) ?_
      have hH13 : Has E { { w3 with drawn := w3.drawn + 1 } with drawn := { w3 with drawn := w3.drawn + 1 }.drawn + 1 } [[Hp.one b2 (.cells #[(.int .i64 pl), (.int .i64 pn)] 50 (0, 0))], sg, [Hp.one pb (.cells #[(.bool p.off), (.bool p.armed), (.int .i64 p.left), (.int .i64 p.uses)] 78 (0, 0))], [Hp.one mb (.cells #[(.int .i64 h.st), (.int .i64 h.cut), (.int .i64 h.seq), (.int .i64 h.ep), (.int .i64 h.cut), (.int .i64 h.st), (.int .i64 h.mrk), (.pointer (some ⟨db, 0, none⟩))] 95 (0, 0))], R] := Has0.drew hH7 _
      refine Rest.phaseA (fun w_ => Has E w_ [[Hp.one b2 (.cells #[(.int .i64 pl), (.int .i64 pn)] 50 (0, 0))], [Hp.one mb (.cells #[(.int .i64 h.st), (.int .i64 h.cut), (.int .i64 h.seq), (.int .i64 h.ep), (.int .i64 h.cut), (.int .i64 h.st), (.int .i64 h.mrk), (.pointer (some ⟨db, 0, none⟩))] 95 (0, 0))]]) 0 6 6 rfl (by decide) (by kernel_rfl) ?_
      refine a_op 0 rfl (by kernel_rfl) (fun w_ h_ => o_loadN (cs := [(.int .i64 pl), (.int .i64 pn)]) Tryz.underlying50 rfl ti50 rfl h_ (seg_sub 0 rfl) (CellsAt.one rfl) ⟨rfl, rfl⟩) ?_
      refine a_op 1 rfl (by kernel_rfl) (fun w_ h_ => o_move (v := (.pointer (some ⟨mb, 0, none⟩))) rfl ⟨rfl, rfl⟩) ?_
      refine a_op 2 rfl (by kernel_rfl) (fun w_ h_ => o_nilCheck rfl ⟨rfl, rfl⟩) ?_
      refine a_op 3 rfl (by kernel_rfl) (fun w_ h_ => o_fieldAddr (k := 0) (fun _ => by kernel_rfl) rfl ⟨rfl, rfl⟩) ?_
      refine a_op 4 rfl (by kernel_rfl) (fun w_ h_ => o_fieldAddr (k := 0) (fun _ => by kernel_rfl) rfl ⟨rfl, rfl⟩) ?_
      refine a_op 5 rfl (by kernel_rfl) (fun w_ h_ => o_loadN (cs := [(.int .i64 h.st), (.int .i64 h.cut)]) Tryz.underlying50 rfl ti50 rfl h_ (seg_sub 1 rfl) (CellsAt.one rfl) ⟨rfl, rfl⟩) ?_
      have hH14 : Has E { { w3 with drawn := w3.drawn + 1 } with drawn := { w3 with drawn := w3.drawn + 1 }.drawn + 1 } [[Hp.one b2 (.cells #[(.int .i64 pl), (.int .i64 pn)] 50 (0, 0))], [Hp.one mb (.cells #[(.int .i64 h.st), (.int .i64 h.cut), (.int .i64 h.seq), (.int .i64 h.ep), (.int .i64 h.cut), (.int .i64 h.st), (.int .i64 h.mrk), (.pointer (some ⟨db, 0, none⟩))] 95 (0, 0))]] := ((hH13.front 3 rfl).front 1 rfl).first 2 rfl
      refine a_done (by kernel_rfl) hH14 ?_
      refine r_op 6 rfl (by kernel_rfl) (o_eql50 pl pn h.st h.cut rfl rfl ?_)
      refine r_op 7 rfl (by kernel_rfl) (o_assign (v := (.bool (eqv50 pl pn h.st h.cut))) rfl ?_)
      refine Rest.done (by kernel_rfl) ?_
      refine t_norm (hK12 _ _ ?_)
      refine c_condb rfl (fun h15 => ?_) (fun h15 => ?_)
      · -- eqv50 pl pn h.st h.cut
        exact absurd ((eqv50_iff _ _ _ _).1 h15) hne
      · -- not: eqv50 pl pn h.st h.cut
        refine wp_skip ?_
        refine b_norm ?_
        refine t_norm (hK5 _ _ ?_)
        refine wp_seq_k fun K16 hK16 => ?_
        refine Rest.region mixed (by kernel_rfl) ?_
        have hH17 : Has E { { { w3 with drawn := w3.drawn + 1 } with drawn := { w3 with drawn := w3.drawn + 1 }.drawn + 1 } with drawn := { { w3 with drawn := w3.drawn + 1 } with drawn := { w3 with drawn := w3.drawn + 1 }.drawn + 1 }.drawn + 1 } [[Hp.one b2 (.cells #[(.int .i64 pl), (.int .i64 pn)] 50 (0, 0))], sg, [Hp.one pb (.cells #[(.bool p.off), (.bool p.armed), (.int .i64 p.left), (.int .i64 p.uses)] 78 (0, 0))], [Hp.one mb (.cells #[(.int .i64 h.st), (.int .i64 h.cut), (.int .i64 h.seq), (.int .i64 h.ep), (.int .i64 h.cut), (.int .i64 h.st), (.int .i64 h.mrk), (.pointer (some ⟨db, 0, none⟩))] 95 (0, 0))], R] := Has0.drew hH13 _
        refine Rest.phaseA (fun w_ => Has E w_ [[Hp.one b2 (.cells #[(.int .i64 pl), (.int .i64 pn)] 50 (0, 0))], [Hp.one mb (.cells #[(.int .i64 h.st), (.int .i64 h.cut), (.int .i64 h.seq), (.int .i64 h.ep), (.int .i64 h.cut), (.int .i64 h.st), (.int .i64 h.mrk), (.pointer (some ⟨db, 0, none⟩))] 95 (0, 0))]]) 0 21 21 rfl (by decide) (by kernel_rfl) ?_
        refine a_op 0 rfl (by kernel_rfl) (fun w_ h_ => o_move (v := (.pointer (some ⟨mb, 0, none⟩))) rfl ⟨rfl, rfl⟩) ?_
        refine a_op 1 rfl (by kernel_rfl) (fun w_ h_ => o_nilCheck rfl ⟨rfl, rfl⟩) ?_
        refine a_op 2 rfl (by kernel_rfl) (fun w_ h_ => o_fieldAddr (k := 7) (fun _ => by kernel_rfl) rfl ⟨rfl, rfl⟩) ?_
        refine a_op 3 rfl (by kernel_rfl) (fun w_ h_ => o_load1 (v := (.pointer (some ⟨db, 0, none⟩))) Tryz.underlying34 rfl rfl h_ (seg_sub 1 rfl) (CellsAt.one rfl) ⟨rfl, rfl⟩) ?_
        refine a_op 4 rfl (by kernel_rfl) (fun w_ h_ => o_move (v := (.pointer (some ⟨mb, 0, none⟩))) rfl ⟨rfl, rfl⟩) ?_
        refine a_op 5 rfl (by kernel_rfl) (fun w_ h_ => o_nilCheck rfl ⟨rfl, rfl⟩) ?_
        refine a_op 6 rfl (by kernel_rfl) (fun w_ h_ => o_fieldAddr (k := 0) (fun _ => by kernel_rfl) rfl ⟨rfl, rfl⟩) ?_
        refine a_op 7 rfl (by kernel_rfl) (fun w_ h_ => o_fieldAddr (k := 2) (fun _ => by kernel_rfl) rfl ⟨rfl, rfl⟩) ?_
        refine a_op 8 rfl (by kernel_rfl) (fun w_ h_ => o_fieldAddr (k := 2) (fun _ => by kernel_rfl) rfl ⟨rfl, rfl⟩) ?_
        refine a_op 9 rfl (by kernel_rfl) (fun w_ h_ => o_load1 (v := (.int .i64 h.seq)) Tryz.underlying3 rfl rfl h_ (seg_sub 1 rfl) (CellsAt.one rfl) ⟨rfl, rfl⟩) ?_
        refine a_op 10 rfl (by kernel_rfl) (fun w_ h_ => o_fieldAddr (k := 0) (fun _ => by kernel_rfl) rfl ⟨rfl, rfl⟩) ?_
        refine a_op 11 rfl (by kernel_rfl) (fun w_ h_ => o_load1 (v := (.int .i64 pl)) Tryz.underlying3 rfl rfl h_ (seg_sub 0 rfl) (CellsAt.one rfl) ⟨rfl, rfl⟩) ?_
        refine a_op 12 rfl (by kernel_rfl) (fun w_ h_ => o_fieldAddr (k := 1) (fun _ => by kernel_rfl) rfl ⟨rfl, rfl⟩) ?_
        refine a_op 13 rfl (by kernel_rfl) (fun w_ h_ => o_load1 (v := (.int .i64 pn)) Tryz.underlying3 rfl rfl h_ (seg_sub 0 rfl) (CellsAt.one rfl) ⟨rfl, rfl⟩) ?_
        refine a_op 14 rfl (by kernel_rfl) (fun w_ h_ => o_sight (v := (.agg #[(.int .i64 h.seq), (.int .i64 0), (.int .i64 pn), (.int .i64 pl), (.int .i64 0)])) (fun _ => by kernel_rfl) ⟨rfl, rfl⟩) ?_
        have hH18 : Has E { { { w3 with drawn := w3.drawn + 1 } with drawn := { w3 with drawn := w3.drawn + 1 }.drawn + 1 } with drawn := { { w3 with drawn := w3.drawn + 1 } with drawn := { w3 with drawn := w3.drawn + 1 }.drawn + 1 }.drawn + 1 } [[Hp.one b2 (.cells #[(.int .i64 pl), (.int .i64 pn)] 50 (0, 0))], [Hp.one mb (.cells #[(.int .i64 h.st), (.int .i64 h.cut), (.int .i64 h.seq), (.int .i64 h.ep), (.int .i64 h.cut), (.int .i64 h.st), (.int .i64 h.mrk), (.pointer (some ⟨db, 0, none⟩))] 95 (0, 0))]] := ((hH17.front 3 rfl).front 1 rfl).first 2 rfl
        refine a_two 15 19 (by kernel_rfl) hH18 ?_ ?_
        · -- first operation 15
          have hH19 : Has E { { { w3 with drawn := w3.drawn + 1 } with drawn := { w3 with drawn := w3.drawn + 1 }.drawn + 1 } with drawn := { { w3 with drawn := w3.drawn + 1 } with drawn := { w3 with drawn := w3.drawn + 1 }.drawn + 1 }.drawn + 1 } [[Hp.one b2 (.cells #[(.int .i64 pl), (.int .i64 pn)] 50 (0, 0))], [Hp.one mb (.cells #[(.int .i64 h.st), (.int .i64 h.cut), (.int .i64 h.seq), (.int .i64 h.ep), (.int .i64 h.cut), (.int .i64 h.st), (.int .i64 h.mrk), (.pointer (some ⟨db, 0, none⟩))] 95 (0, 0))]] := ((hH17.front 3 rfl).front 1 rfl).first 2 rfl
          refine ok_w 15 rfl (o_callf (vs := #[(.pointer (some ⟨db, 0, none⟩)), (.int .i64 0), (.agg #[(.int .i64 h.seq), (.int .i64 0), (.int .i64 pn), (.int .i64 pl), (.int .i64 0)])]) ca26 rfl (args3 rfl rfl rfl) (hsave_late ((hH17.front 2 rfl).front 2 rfl).all2 hd (hg.mono (seg_sub 2 rfl)) hp hq hla (x := 0) (h := (Hd.mk h.seq 0 pn pl 0)) hT hb) ?_)
          rintro _ w28 ⟨sg20, p22, lo23, rfl, h24, hlo25, hd21, hX26⟩
          refine ⟨_, rfl, ?_⟩
          have hH27 : Has E w28 [sg20, [Hp.one pb (.cells #[(.bool p22.off), (.bool p22.armed), (.int .i64 p22.left), (.int .i64 p22.uses)] 78 (0, 0))], [Hp.one b2 (.cells #[(.int .i64 pl), (.int .i64 pn)] 50 (0, 0))], [Hp.one mb (.cells #[(.int .i64 h.st), (.int .i64 h.cut), (.int .i64 h.seq), (.int .i64 h.ep), (.int .i64 h.cut), (.int .i64 h.st), (.int .i64 h.mrk), (.pointer (some ⟨db, 0, none⟩))] 95 (0, 0))], R] := hX26.of_all2
          refine a_op 16 rfl (by kernel_rfl) (fun w_ h_ => o_move (v := (.tuple #[(.agg #[(.int .i64 hdZ.seq), (.int .i64 hdZ.ep), (.int .i64 hdZ.cut), (.int .i64 hdZ.st), (.int .i64 hdZ.mrk)]), (.int .i64 (6 : Int))])) rfl ⟨rfl, rfl⟩) ?_
          refine a_op 17 rfl (by kernel_rfl) (fun w_ h_ => o_extract (v := (.agg #[(.int .i64 hdZ.seq), (.int .i64 hdZ.ep), (.int .i64 hdZ.cut), (.int .i64 hdZ.st), (.int .i64 hdZ.mrk)])) rfl rfl ⟨rfl, rfl⟩) ?_
          refine a_op 18 rfl (by kernel_rfl) (fun w_ h_ => o_extract (v := (.int .i64 (6 : Int))) rfl rfl ⟨rfl, rfl⟩) ?_
          have hH29 : Has E w28 [[Hp.one b2 (.cells #[(.int .i64 pl), (.int .i64 pn)] 50 (0, 0))], [Hp.one mb (.cells #[(.int .i64 h.st), (.int .i64 h.cut), (.int .i64 h.seq), (.int .i64 h.ep), (.int .i64 h.cut), (.int .i64 h.st), (.int .i64 h.mrk), (.pointer (some ⟨db, 0, none⟩))] 95 (0, 0))]] := ((hH27.front 3 rfl).front 3 rfl).first 2 rfl
          refine a_w 19 rfl (by kernel_rfl) hH29 (o_alloc (cs := #[(.int .i64 0), (.int .i64 0), (.int .i64 0), (.int .i64 0), (.int .i64 0)]) ti27 rfl hH27 fun b30 w31 hH32 => ?_)
          have hH33 : Has E w31 [[Hp.one b2 (.cells #[(.int .i64 pl), (.int .i64 pn)] 50 (0, 0))], [Hp.one mb (.cells #[(.int .i64 h.st), (.int .i64 h.cut), (.int .i64 h.seq), (.int .i64 h.ep), (.int .i64 h.cut), (.int .i64 h.st), (.int .i64 h.mrk), (.pointer (some ⟨db, 0, none⟩))] 95 (0, 0))]] := ((hH32.front 4 rfl).front 4 rfl).first 2 rfl
          refine a_we 20 rfl (by kernel_rfl) hH33 (o_storeN (vs := [(.int .i64 hdZ.seq), (.int .i64 hdZ.ep), (.int .i64 hdZ.cut), (.int .i64 hdZ.st), (.int .i64 hdZ.mrk)]) (c' := #[(.int .i64 hdZ.seq), (.int .i64 hdZ.ep), (.int .i64 hdZ.cut), (.int .i64 hdZ.st), (.int .i64 hdZ.mrk)]) ti27 rfl rfl rfl rfl (by intro u hu; simp only [List.mem_cons, List.not_mem_nil, or_false] at hu; rcases hu with rfl | rfl | rfl | rfl | rfl <;> first | rfl) (by simp) (by kernel_rfl) (hH32.front 0 rfl) fun w34 hH35 => ?_)
          have hH36 : Has E w34 [[Hp.one b2 (.cells #[(.int .i64 pl), (.int .i64 pn)] 50 (0, 0))], [Hp.one mb (.cells #[(.int .i64 h.st), (.int .i64 h.cut), (.int .i64 h.seq), (.int .i64 h.ep), (.int .i64 h.cut), (.int .i64 h.st), (.int .i64 h.mrk), (.pointer (some ⟨db, 0, none⟩))] 95 (0, 0))]] := ((hH35.front 4 rfl).front 4 rfl).first 2 rfl
          refine a_done (by kernel_rfl) hH36 ?_
          refine r_op 21 rfl (by kernel_rfl) (o_assign (v := (.int .i64 (6 : Int))) rfl ?_)
          refine Rest.done (by kernel_rfl) ?_
          refine t_norm (hK16 _ _ ?_)
          refine wp_seq_k fun K37 hK37 => ?_
          refine wp_seq_k fun K38 hK38 => ?_
          refine c_region ?_
          refine s_op (o_move (v := (.int .i64 (6 : Int))) rfl ?_)
          refine s_op (o_eql (a := (6 : Int)) (b := 0) rfl rfl ?_)
          refine s_nil ?_
          refine t_norm (hK38 _ _ ?_)
          refine c_cond rfl (fun h39 => ?_) (fun h39 => ?_)
          · -- (6 : Int) = 0
            exact absurd h39 (by decide)
          · -- not: (6 : Int) = 0
            refine wp_skip ?_
            refine t_norm (hK37 _ _ ?_)
            refine wp_seq_k fun K40 hK40 => ?_
            refine c_region ?_
            refine s_op (o_move (v := (.int .i64 (6 : Int))) rfl ?_)
            refine s_op (o_assign (v := (.int .i64 (6 : Int))) rfl ?_)
            refine s_nil ?_
            refine t_norm (hK40 _ _ ?_)
            refine wp_ret ?_
            refine c_ret1 Tryz.results24  (v := (.int .i64 (6 : Int))) rfl ?_
            have hH41 : Has E w34 [sg20, [Hp.one pb (.cells #[(.bool p22.off), (.bool p22.armed), (.int .i64 p22.left), (.int .i64 p22.uses)] 78 (0, 0))], [Hp.one mb (.cells #[(.int .i64 h.st), (.int .i64 h.cut), (.int .i64 h.seq), (.int .i64 h.ep), (.int .i64 h.cut), (.int .i64 h.st), (.int .i64 h.mrk), (.pointer (some ⟨db, 0, none⟩))] 95 (0, 0))], R] := ((((hH35.front 5 rfl).front 5 rfl).front 4 rfl).front 4 rfl).first 4 rfl
            exact ⟨_, _, _, rfl, h24, hlo25, hd21, hH41⟩
        · -- first operation 19
          have hH42 : Has E { { { w3 with drawn := w3.drawn + 1 } with drawn := { w3 with drawn := w3.drawn + 1 }.drawn + 1 } with drawn := { { w3 with drawn := w3.drawn + 1 } with drawn := { w3 with drawn := w3.drawn + 1 }.drawn + 1 }.drawn + 1 } [[Hp.one b2 (.cells #[(.int .i64 pl), (.int .i64 pn)] 50 (0, 0))], [Hp.one mb (.cells #[(.int .i64 h.st), (.int .i64 h.cut), (.int .i64 h.seq), (.int .i64 h.ep), (.int .i64 h.cut), (.int .i64 h.st), (.int .i64 h.mrk), (.pointer (some ⟨db, 0, none⟩))] 95 (0, 0))]] := ((hH17.front 3 rfl).front 1 rfl).first 2 rfl
          refine ok_w 19 rfl (o_alloc (cs := #[(.int .i64 0), (.int .i64 0), (.int .i64 0), (.int .i64 0), (.int .i64 0)]) ti27 rfl hH17 fun b43 w44 hH45 => ?_)
          have hH46 : Has E w44 [[Hp.one b2 (.cells #[(.int .i64 pl), (.int .i64 pn)] 50 (0, 0))], [Hp.one mb (.cells #[(.int .i64 h.st), (.int .i64 h.cut), (.int .i64 h.seq), (.int .i64 h.ep), (.int .i64 h.cut), (.int .i64 h.st), (.int .i64 h.mrk), (.pointer (some ⟨db, 0, none⟩))] 95 (0, 0))]] := ((hH45.front 4 rfl).front 2 rfl).first 2 rfl
          refine a_w 15 rfl (by kernel_rfl) hH46 (o_callf (vs := #[(.pointer (some ⟨db, 0, none⟩)), (.int .i64 0), (.agg #[(.int .i64 h.seq), (.int .i64 0), (.int .i64 pn), (.int .i64 pl), (.int .i64 0)])]) ca26 rfl (args3 rfl rfl rfl) (hsave_late ((hH45.front 3 rfl).front 3 rfl).all2 hd (hg.mono (seg_sub 3 rfl)) hp hq hla (x := 0) (h := (Hd.mk h.seq 0 pn pl 0)) hT hb) ?_)
          rintro _ w55 ⟨sg47, p49, lo50, rfl, h51, hlo52, hd48, hX53⟩
          refine ⟨_, rfl, ?_⟩
          have hH54 : Has E w55 [sg47, [Hp.one pb (.cells #[(.bool p49.off), (.bool p49.armed), (.int .i64 p49.left), (.int .i64 p49.uses)] 78 (0, 0))], [Hp.one b43 (.cells #[(.int .i64 0), (.int .i64 0), (.int .i64 0), (.int .i64 0), (.int .i64 0)] 27 (0, 0))], [Hp.one b2 (.cells #[(.int .i64 pl), (.int .i64 pn)] 50 (0, 0))], [Hp.one mb (.cells #[(.int .i64 h.st), (.int .i64 h.cut), (.int .i64 h.seq), (.int .i64 h.ep), (.int .i64 h.cut), (.int .i64 h.st), (.int .i64 h.mrk), (.pointer (some ⟨db, 0, none⟩))] 95 (0, 0))], R] := hX53.of_all2
          refine a_op 16 rfl (by kernel_rfl) (fun w_ h_ => o_move (v := (.tuple #[(.agg #[(.int .i64 hdZ.seq), (.int .i64 hdZ.ep), (.int .i64 hdZ.cut), (.int .i64 hdZ.st), (.int .i64 hdZ.mrk)]), (.int .i64 (6 : Int))])) rfl ⟨rfl, rfl⟩) ?_
          refine a_op 17 rfl (by kernel_rfl) (fun w_ h_ => o_extract (v := (.agg #[(.int .i64 hdZ.seq), (.int .i64 hdZ.ep), (.int .i64 hdZ.cut), (.int .i64 hdZ.st), (.int .i64 hdZ.mrk)])) rfl rfl ⟨rfl, rfl⟩) ?_
          refine a_op 18 rfl (by kernel_rfl) (fun w_ h_ => o_extract (v := (.int .i64 (6 : Int))) rfl rfl ⟨rfl, rfl⟩) ?_
          have hH56 : Has E w55 [[Hp.one b2 (.cells #[(.int .i64 pl), (.int .i64 pn)] 50 (0, 0))], [Hp.one mb (.cells #[(.int .i64 h.st), (.int .i64 h.cut), (.int .i64 h.seq), (.int .i64 h.ep), (.int .i64 h.cut), (.int .i64 h.st), (.int .i64 h.mrk), (.pointer (some ⟨db, 0, none⟩))] 95 (0, 0))]] := ((hH54.front 4 rfl).front 4 rfl).first 2 rfl
          refine a_we 20 rfl (by kernel_rfl) hH56 (o_storeN (vs := [(.int .i64 hdZ.seq), (.int .i64 hdZ.ep), (.int .i64 hdZ.cut), (.int .i64 hdZ.st), (.int .i64 hdZ.mrk)]) (c' := #[(.int .i64 hdZ.seq), (.int .i64 hdZ.ep), (.int .i64 hdZ.cut), (.int .i64 hdZ.st), (.int .i64 hdZ.mrk)]) ti27 rfl rfl rfl rfl (by intro u hu; simp only [List.mem_cons, List.not_mem_nil, or_false] at hu; rcases hu with rfl | rfl | rfl | rfl | rfl <;> first | rfl) (by simp) (by kernel_rfl) (hH54.front 2 rfl) fun w57 hH58 => ?_)
          have hH59 : Has E w57 [[Hp.one b2 (.cells #[(.int .i64 pl), (.int .i64 pn)] 50 (0, 0))], [Hp.one mb (.cells #[(.int .i64 h.st), (.int .i64 h.cut), (.int .i64 h.seq), (.int .i64 h.ep), (.int .i64 h.cut), (.int .i64 h.st), (.int .i64 h.mrk), (.pointer (some ⟨db, 0, none⟩))] 95 (0, 0))]] := ((hH58.front 4 rfl).front 4 rfl).first 2 rfl
          refine a_done (by kernel_rfl) hH59 ?_
          refine r_op 21 rfl (by kernel_rfl) (o_assign (v := (.int .i64 (6 : Int))) rfl ?_)
          refine Rest.done (by kernel_rfl) ?_
          refine t_norm (hK16 _ _ ?_)
          refine wp_seq_k fun K60 hK60 => ?_
          refine wp_seq_k fun K61 hK61 => ?_
          refine c_region ?_
          refine s_op (o_move (v := (.int .i64 (6 : Int))) rfl ?_)
          refine s_op (o_eql (a := (6 : Int)) (b := 0) rfl rfl ?_)
          refine s_nil ?_
          refine t_norm (hK61 _ _ ?_)
          refine c_cond rfl (fun h62 => ?_) (fun h62 => ?_)
          · -- (6 : Int) = 0
            exact absurd h62 (by decide)
          · -- not: (6 : Int) = 0
            refine wp_skip ?_
            refine t_norm (hK60 _ _ ?_)
            refine wp_seq_k fun K63 hK63 => ?_
            refine c_region ?_
            refine s_op (o_move (v := (.int .i64 (6 : Int))) rfl ?_)
            refine s_op (o_assign (v := (.int .i64 (6 : Int))) rfl ?_)
            refine s_nil ?_
            refine t_norm (hK63 _ _ ?_)
            refine wp_ret ?_
            refine c_ret1 Tryz.results24  (v := (.int .i64 (6 : Int))) rfl ?_
            have hH64 : Has E w57 [sg47, [Hp.one pb (.cells #[(.bool p49.off), (.bool p49.armed), (.int .i64 p49.left), (.int .i64 p49.uses)] 78 (0, 0))], [Hp.one mb (.cells #[(.int .i64 h.st), (.int .i64 h.cut), (.int .i64 h.seq), (.int .i64 h.ep), (.int .i64 h.cut), (.int .i64 h.st), (.int .i64 h.mrk), (.pointer (some ⟨db, 0, none⟩))] 95 (0, 0))], R] := ((((hH58.front 5 rfl).front 5 rfl).front 4 rfl).front 4 rfl).first 4 rfl
            exact ⟨_, _, _, rfl, h51, hlo52, hd48, hH64⟩
end Go.Q
namespace Go.Q
open Go.Proofs
set_option linter.unusedVariables false
set_option maxRecDepth 100000
attribute [local irreducible] wpList OK Code.wp
set_option maxHeartbeats 4000000 in
theorem PointCrashes_c {E w : World} {R : List Hp} (hH : Has E w [R]) (hg : CellsAt R 0 0 nibV) {v vk : Value} {l : List (Int × Int)} (hv : Sl R 2 v l.length (l.flatMap ptC)) {arm_ : Int} (harm : 0 ≤ arm_ ∧ arm_ ≤ 255) {keep : List Int} (hk_ : Ints R vk keep) :
    Calls Tryz.prog 8 #[v, (.int .u8 arm_), vk] w fun e w' => e = .returned (.bool true) ∧ Has E w' [R] := by
  have hn_ := hv.le
  have hkn_ := hk_.le
  refine c_enter (args := [v, (.int .u8 arm_), vk]) Tryz.func8 rfl Tryz.ntmps8 (by simp) ?_
  refine wp_seq_k fun K1 hK1 => ?_
  refine c_region ?_
  refine s_op (o_assign (v := (.bool false)) rfl ?_)
  refine s_nil ?_
  refine t_norm (hK1 _ _ ?_)
  refine wp_seq_k fun K2 hK2 => ?_
  refine wp_seq_k fun K3 hK3 => ?_
  refine c_region ?_
  refine s_op (o_move (v := v) rfl ?_)
  refine s_op (o_lenS Tryz.underlying58 rfl hv ?_)
  refine s_op (o_gtr (a := ((l.length : Nat) : Int)) (b := 30) rfl rfl ?_)
  refine s_op (o_move (v := (.bool (decide (30 < ((l.length : Nat) : Int))))) rfl ?_)
  by_cases h4 : 30 < ((l.length : Nat) : Int)
  · -- 30 < ((l.length : Nat) : Int)
    refine s_off (b' := true) 18 rfl (congrArg Value.bool (decide_eq_true h4)) rfl ?_
    refine s_off (b' := true) 18 rfl (congrArg Value.bool (decide_eq_true h4)) rfl ?_
    refine s_off (b' := true) 18 rfl (congrArg Value.bool (decide_eq_true h4)) rfl ?_
    refine s_op (o_pick_t (u := (.bool true)) ((rfl : _ = _).trans (congrArg Value.bool (decide_eq_true h4))) rfl ?_)
    refine s_op (o_move (v := (.bool true)) rfl ?_)
    refine s_off (b' := true) 23 rfl rfl rfl ?_
    refine s_off (b' := true) 23 rfl rfl rfl ?_
    refine s_op (o_pick_t (u := (.bool true)) rfl rfl ?_)
    refine s_nil ?_
    refine t_norm (hK3 _ _ ?_)
    refine c_true rfl rfl ?_
    refine wp_seq_k fun K5 hK5 => ?_
    refine c_region ?_
    refine s_op (o_callf (vs := #[]) ca20 rfl (args0) (awake19_c hH.all (hg.mono (seg_sub 0 rfl))) ?_)
    rintro _ w8 ⟨rfl, hX6⟩
    refine ⟨_, rfl, ?_⟩
    have hH7 := hX6.of_all
    refine s_op (o_assign (v := (.bool true)) rfl ?_)
    refine s_nil ?_
    refine t_norm (hK5 _ _ ?_)
    refine wp_ret ?_
    refine t_ret (c_ret1 Tryz.results8  (v := (.bool true)) rfl ?_)
    exact ⟨by first | rfl | (rw [show true = true by first | rfl | assumption]), hH7⟩
  · -- not: 30 < ((l.length : Nat) : Int)
    refine s_on 18 rfl (congrArg Value.bool (decide_eq_false h4)) (o_move (v := vk) rfl ?_)
    refine s_on 18 rfl (congrArg Value.bool (decide_eq_false h4)) (o_lenS Tryz.underlying46 rfl hk_ ?_)
    refine s_on 18 rfl (congrArg Value.bool (decide_eq_false h4)) (o_gtr (a := ((keep.length : Nat) : Int)) (b := 40) rfl rfl ?_)
    refine s_op (o_pick_f (u := (.bool (decide (40 < ((keep.length : Nat) : Int))))) ((rfl : _ = _).trans (congrArg Value.bool (decide_eq_false h4))) rfl ?_)
    refine s_op (o_move (v := (.bool (decide (40 < ((keep.length : Nat) : Int))))) rfl ?_)
    by_cases h9 : 40 < ((keep.length : Nat) : Int)
    · -- 40 < ((keep.length : Nat) : Int)
      refine s_off (b' := true) 23 rfl (congrArg Value.bool (decide_eq_true h9)) rfl ?_
      refine s_off (b' := true) 23 rfl (congrArg Value.bool (decide_eq_true h9)) rfl ?_
      refine s_op (o_pick_t (u := (.bool true)) ((rfl : _ = _).trans (congrArg Value.bool (decide_eq_true h9))) rfl ?_)
      refine s_nil ?_
      refine t_norm (hK3 _ _ ?_)
      refine c_true rfl rfl ?_
      refine wp_seq_k fun K10 hK10 => ?_
      refine c_region ?_
      refine s_op (o_callf (vs := #[]) ca20 rfl (args0) (awake19_c hH.all (hg.mono (seg_sub 0 rfl))) ?_)
      rintro _ w13 ⟨rfl, hX11⟩
      refine ⟨_, rfl, ?_⟩
      have hH12 := hX11.of_all
      refine s_op (o_assign (v := (.bool true)) rfl ?_)
      refine s_nil ?_
      refine t_norm (hK10 _ _ ?_)
      refine wp_ret ?_
      refine t_ret (c_ret1 Tryz.results8  (v := (.bool true)) rfl ?_)
      exact ⟨by first | rfl | (rw [show true = true by first | rfl | assumption]), hH12⟩
    · -- not: 40 < ((keep.length : Nat) : Int)
      refine s_on 23 rfl (congrArg Value.bool (decide_eq_false h9)) (o_callf (vs := #[]) ca20 rfl (args0) (awake19_c hH.all (hg.mono (seg_sub 0 rfl))) ?_)
      rintro _ w16 ⟨rfl, hX14⟩
      refine ⟨_, rfl, ?_⟩
      have hH15 := hX14.of_all
      refine s_on 23 rfl (congrArg Value.bool (decide_eq_false h9)) (o_not rfl ?_)
      refine s_op (o_pick_f (u := (.bool false)) ((rfl : _ = _).trans (congrArg Value.bool (decide_eq_false h9))) rfl ?_)
      refine s_nil ?_
      refine t_norm (hK3 _ _ ?_)
      refine c_false rfl rfl ?_
      refine wp_skip ?_
      refine t_norm (hK2 _ _ ?_)
      refine wp_seq_k fun K17 hK17 => ?_
      refine c_region ?_
      refine s_op (o_callf (vs := #[(.pointer none), (.int .i64 2)]) ca15 rfl (args2 rfl rfl) (new_nil hH15.all (n := 2) (by decide)) ?_)
      rintro _ w24 ⟨db18, pb19, sg20, rfl, hd21, hX22⟩
      refine ⟨_, rfl, ?_⟩
      have hH23 : Has E w24 [sg20, [Hp.one pb19 (.cells #[(.bool (Pw.mk false false 0 0).off), (.bool (Pw.mk false false 0 0).armed), (.int .i64 (Pw.mk false false 0 0).left), (.int .i64 (Pw.mk false false 0 0).uses)] 78 (0, 0))], R] := hX22.of_all2
      refine s_op (o_assign (v := (.pointer (some ⟨db18, 0, none⟩))) rfl ?_)
      refine s_nil ?_
      refine t_norm (hK17 _ _ ?_)
      refine wp_seq_k fun K25 hK25 => ?_
      refine c_region ?_
      refine s_op (o_move (v := (.pointer (some ⟨db18, 0, none⟩))) rfl ?_)
      refine s_op (o_callf (vs := #[(.pointer (some ⟨db18, 0, none⟩))]) ca22 rfl (args1 rfl) (fmt_ok (p := (Pw.mk false false 0 0)) (la := (List.replicate 2 blankS)) ((hH23.front 1 rfl).front 1 rfl).all2 hd21 (hg.mono (seg_sub 0 rfl)) (by unfold PwOk; decide +kernel) (by unfold PwOk; decide +kernel) (by decide +kernel) (by decide +kernel) (by decide +kernel) (by decide +kernel)) ?_)
      rintro _ w31 ⟨mb26, sg27, rfl, hd28, hX29⟩
      refine ⟨_, rfl, ?_⟩
      have hH30 : Has E w31 [[Hp.one mb26 (.cells #[(.int .i64 (hdUp (Hd.mk 0 0 0 0 0)).st), (.int .i64 (hdUp (Hd.mk 0 0 0 0 0)).cut), (.int .i64 (hdUp (Hd.mk 0 0 0 0 0)).seq), (.int .i64 (hdUp (Hd.mk 0 0 0 0 0)).ep), (.int .i64 (hdUp (Hd.mk 0 0 0 0 0)).cut), (.int .i64 (hdUp (Hd.mk 0 0 0 0 0)).st), (.int .i64 (hdUp (Hd.mk 0 0 0 0 0)).mrk), (.pointer (some ⟨db18, 0, none⟩))] 95 (0, 0))], sg27, [Hp.one pb19 (.cells #[(.bool (useS (useS (Pw.mk false false 0 0))).off), (.bool (useS (useS (Pw.mk false false 0 0))).armed), (.int .i64 (useS (useS (Pw.mk false false 0 0))).left), (.int .i64 (useS (useS (Pw.mk false false 0 0))).uses)] 78 (0, 0))], R] := hX29.of_all3
      refine s_op (o_move (v := (.tuple #[(.pointer (some ⟨mb26, 0, none⟩)), (.int .i64 (0 : Int))])) rfl ?_)
      refine s_op (o_extract (v := (.pointer (some ⟨mb26, 0, none⟩))) rfl rfl ?_)
      refine s_op (o_extract (v := (.int .i64 (0 : Int))) rfl rfl ?_)
      refine s_op (o_assign (v := (.pointer (some ⟨mb26, 0, none⟩))) rfl ?_)
      refine s_op (o_assign (v := (.int .i64 (0 : Int))) rfl ?_)
      refine s_nil ?_
      refine t_norm (hK25 _ _ ?_)
      refine wp_seq_k fun K32 hK32 => ?_
      refine wp_seq_k fun K33 hK33 => ?_
      refine c_region ?_
      refine s_op (o_move (v := (.pointer (some ⟨mb26, 0, none⟩))) rfl ?_)
      refine s_op (o_pnil (p := some _) Tryz.underlying51 rfl rfl ?_)
      refine s_op (o_move (v := (.bool false)) rfl ?_)
      refine s_on 36 rfl rfl (o_move (v := (.int .i64 (0 : Int))) rfl ?_)
      refine s_on 36 rfl rfl (o_neq (a := (0 : Int)) (b := 0) rfl rfl ?_)
      refine s_op (o_pick_f (u := (.bool (decide ((0 : Int) ≠ 0)))) rfl rfl ?_)
      refine s_nil ?_
      refine t_norm (hK33 _ _ ?_)
      refine c_cond rfl (fun h34 => ?_) (fun h34 => ?_)
      · -- (0 : Int) ≠ 0
        exact absurd h34 (by decide)
      · -- not: (0 : Int) ≠ 0
        refine wp_skip ?_
        refine t_norm (hK32 _ _ ?_)
        refine wp_seq_k fun K35 hK35 => ?_
        refine c_region ?_
        refine s_op (o_move (v := (.pointer (some ⟨db18, 0, none⟩))) rfl ?_)
        refine s_op (o_move (v := (.int .u8 arm_)) rfl ?_)
        refine s_op (o_rem (a := arm_) (b := 30) (c := arm_ % 30) rfl rfl (by omega) ((Int.tmod_eq_emod_of_nonneg (by first | exact Int.natCast_nonneg _ | omega))) ?_)
        refine s_op (o_conv (c := (arm_ % 30)) Tryz.underlying5 Tryz.underlying3 rfl (w64 (by omega) (by omega)) ?_)
        refine s_op (o_callf (vs := #[(.pointer (some ⟨db18, 0, none⟩)), (.int .i64 (arm_ % 30))]) ca29 rfl (args2 rfl rfl) (darm_d (p := (useS (useS (Pw.mk false false 0 0)))) (la := ((List.replicate 2 blankS).set (svN 0 (Hd.mk 0 0 0 0 0)).toNat (hdL (hdUp (Hd.mk 0 0 0 0 0))))) (lo := ([] : List (Int × Bs))) ((hH30.front 2 rfl).front 2 rfl).all2 hd28 (arm_ % 30)) ?_)
        rintro _ w38 ⟨rfl, hX36⟩
        refine ⟨_, rfl, ?_⟩
        have hH37 : Has E w38 [sg27, [Hp.one pb19 (.cells #[(.bool (armS (useS (useS (Pw.mk false false 0 0))) (arm_ % 30)).off), (.bool (armS (useS (useS (Pw.mk false false 0 0))) (arm_ % 30)).armed), (.int .i64 (armS (useS (useS (Pw.mk false false 0 0))) (arm_ % 30)).left), (.int .i64 (armS (useS (useS (Pw.mk false false 0 0))) (arm_ % 30)).uses)] 78 (0, 0))], [Hp.one mb26 (.cells #[(.int .i64 (hdUp (Hd.mk 0 0 0 0 0)).st), (.int .i64 (hdUp (Hd.mk 0 0 0 0 0)).cut), (.int .i64 (hdUp (Hd.mk 0 0 0 0 0)).seq), (.int .i64 (hdUp (Hd.mk 0 0 0 0 0)).ep), (.int .i64 (hdUp (Hd.mk 0 0 0 0 0)).cut), (.int .i64 (hdUp (Hd.mk 0 0 0 0 0)).st), (.int .i64 (hdUp (Hd.mk 0 0 0 0 0)).mrk), (.pointer (some ⟨db18, 0, none⟩))] 95 (0, 0))], R] := hX36.of_all2
        refine s_nil ?_
        refine t_norm (hK35 _ _ ?_)
        refine wp_seq_k fun K39 hK39 => ?_
        refine c_region ?_
        refine s_op (o_sight (v := (.agg #[(.int .i64 0), (.int .i64 0)])) (fun _ => by kernel_rfl) ?_)
        refine s_op (o_sight (v := (.agg #[(.int .i64 0), (.int .i64 0)])) (fun _ => by kernel_rfl) ?_)
        refine s_op (o_alloc (cs := #[(.int .i64 0), (.int .i64 0)]) ti50 rfl hH37 fun b40 w41 hH42 => ?_)
        refine s_op (o_alloc (cs := #[(.int .i64 0), (.int .i64 0)]) ti50 rfl hH42 fun b43 w44 hH45 => ?_)
        refine s_eff (o_storeN (vs := [(.int .i64 0), (.int .i64 0)]) (c' := #[(.int .i64 0), (.int .i64 0)]) ti50 rfl rfl rfl rfl (by intro u hu; simp only [List.mem_cons, List.not_mem_nil, or_false] at hu; rcases hu with rfl | rfl <;> first | rfl) (by simp) (by kernel_rfl) (hH45.front 1 rfl) fun w46 hH47 => ?_)
        refine s_eff (o_storeN (vs := [(.int .i64 0), (.int .i64 0)]) (c' := #[(.int .i64 0), (.int .i64 0)]) ti50 rfl rfl rfl rfl (by intro u hu; simp only [List.mem_cons, List.not_mem_nil, or_false] at hu; rcases hu with rfl | rfl <;> first | rfl) (by simp) (by kernel_rfl) (hH47.front 1 rfl) fun w48 hH49 => ?_)
        refine s_nil ?_
        refine t_norm (hK39 _ _ ?_)
        refine wp_seq_k fun K50 hK50 => ?_
        refine wp_seq_k fun K51 hK51 => ?_
        refine c_region ?_
        refine s_op (o_assign (v := (.int .i64 0)) rfl ?_)
        refine s_nil ?_
        refine t_norm (hK51 _ _ ?_)
        refine wp_block ?_
        have hH52 : Has E w48 [[Hp.one b43 (.cells #[(.int .i64 0), (.int .i64 0)] 50 (0, 0))], [Hp.one b40 (.cells #[(.int .i64 (hdUp (Hd.mk 0 0 0 0 0)).st), (.int .i64 (hdUp (Hd.mk 0 0 0 0 0)).cut)] 50 (0, 0))], sg27, [Hp.one pb19 (.cells #[(.bool (armS (useS (useS (Pw.mk false false 0 0))) (arm_ % 30)).off), (.bool (armS (useS (useS (Pw.mk false false 0 0))) (arm_ % 30)).armed), (.int .i64 (armS (useS (useS (Pw.mk false false 0 0))) (arm_ % 30)).left), (.int .i64 (armS (useS (useS (Pw.mk false false 0 0))) (arm_ % 30)).uses)] 78 (0, 0))], [Hp.one mb26 (.cells #[(.int .i64 (hdUp (Hd.mk 0 0 0 0 0)).st), (.int .i64 (hdUp (Hd.mk 0 0 0 0 0)).cut), (.int .i64 (hdUp (Hd.mk 0 0 0 0 0)).seq), (.int .i64 (hdUp (Hd.mk 0 0 0 0 0)).ep), (.int .i64 (hdUp (Hd.mk 0 0 0 0 0)).cut), (.int .i64 (hdUp (Hd.mk 0 0 0 0 0)).st), (.int .i64 (hdUp (Hd.mk 0 0 0 0 0)).mrk), (.pointer (some ⟨db18, 0, none⟩))] 95 (0, 0))], R] := hH49
        have hH53 : Has E w48 [[Hp.one b43 (.cells #[(.int .i64 (hdUp (Hd.mk 0 0 0 0 0)).st), (.int .i64 (hdUp (Hd.mk 0 0 0 0 0)).cut)] 50 (0, 0))], [Hp.one b40 (.cells #[(.int .i64 (hdUp (Hd.mk 0 0 0 0 0)).st), (.int .i64 (hdUp (Hd.mk 0 0 0 0 0)).cut)] 50 (0, 0))], sg27, [Hp.one pb19 (.cells #[(.bool (armS (useS (useS (Pw.mk false false 0 0))) (arm_ % 30)).off), (.bool (armS (useS (useS (Pw.mk false false 0 0))) (arm_ % 30)).armed), (.int .i64 (armS (useS (useS (Pw.mk false false 0 0))) (arm_ % 30)).left), (.int .i64 (armS (useS (useS (Pw.mk false false 0 0))) (arm_ % 30)).uses)] 78 (0, 0))], [Hp.one mb26 (.cells #[(.int .i64 (hdUp (Hd.mk 0 0 0 0 0)).st), (.int .i64 (hdUp (Hd.mk 0 0 0 0 0)).cut), (.int .i64 (hdUp (Hd.mk 0 0 0 0 0)).seq), (.int .i64 (hdUp (Hd.mk 0 0 0 0 0)).ep), (.int .i64 (hdUp (Hd.mk 0 0 0 0 0)).cut), (.int .i64 (hdUp (Hd.mk 0 0 0 0 0)).st), (.int .i64 (hdUp (Hd.mk 0 0 0 0 0)).mrk), (.pointer (some ⟨db18, 0, none⟩))] 95 (0, 0))], R] := hH52
        let I55 : Nat → (Nat → Value) → World → Prop := fun n__ r__ w__ => ∃ (i : Nat) (h3 : Hd) (p3 : Pw) (la3 : List Bs) (sg3 : List Hp), n__ = l.length - i ∧ Has E w__ [sg3, [Hp.one pb19 (.cells #[(.bool p3.off), (.bool p3.armed), (.int .i64 p3.left), (.int .i64 p3.uses)] 78 (0, 0))], [Hp.one mb26 (.cells #[(.int .i64 h3.st), (.int .i64 h3.cut), (.int .i64 h3.seq), (.int .i64 h3.ep), (.int .i64 h3.cut), (.int .i64 h3.st), (.int .i64 h3.mrk), (.pointer (some ⟨db18, 0, none⟩))] 95 (0, 0))], [Hp.one b40 (.cells #[(.int .i64 h3.st), (.int .i64 h3.cut)] 50 (0, 0))], [Hp.one b43 (.cells #[(.int .i64 h3.st), (.int .i64 h3.cut)] 50 (0, 0))], R] ∧ (i ≤ l.length) ∧ (DevAt pb19 sg3 db18 la3 []) ∧ (Few p3 (2 + 2 * i)) ∧ (p3.off = false) ∧ (la3.length = 2) ∧ (Full64 la3) ∧ (KpA la3 0 h3) ∧ (1 ≤ h3.seq ∧ h3.seq ≤ 1 + i) ∧ (h3.ep = 0 ∧ h3.mrk = 0) ∧ ((0 ≤ h3.st ∧ h3.st ≤ 4611686018427387903) ∧ (0 ≤ h3.cut ∧ h3.cut ≤ 4611686018427387903)) ∧ r__ 0 = v ∧ r__ 1 = (.int .u8 arm_) ∧ r__ 2 = vk ∧ r__ 6 = (.bool false) ∧ r__ 7 = (.pointer (some ⟨db18, 0, none⟩)) ∧ r__ 8 = (.pointer (some ⟨mb26, 0, none⟩)) ∧ r__ 9 = (.int .i64 (0 : Int)) ∧ r__ 10 = (.pointer (some ⟨b40, 0, none⟩)) ∧ r__ 11 = (.pointer (some ⟨b43, 0, none⟩)) ∧ r__ 12 = (.int .i64 (i : Int)) ∧ r__ 26 = (.bool false) ∧ r__ 39 = (.bool (decide ((0 : Int) ≠ 0)))
        have hH56 : Has E w48 [sg27, [Hp.one pb19 (.cells #[(.bool (armS (useS (useS (Pw.mk false false 0 0))) (arm_ % 30)).off), (.bool (armS (useS (useS (Pw.mk false false 0 0))) (arm_ % 30)).armed), (.int .i64 (armS (useS (useS (Pw.mk false false 0 0))) (arm_ % 30)).left), (.int .i64 (armS (useS (useS (Pw.mk false false 0 0))) (arm_ % 30)).uses)] 78 (0, 0))], [Hp.one mb26 (.cells #[(.int .i64 (hdUp (Hd.mk 0 0 0 0 0)).st), (.int .i64 (hdUp (Hd.mk 0 0 0 0 0)).cut), (.int .i64 (hdUp (Hd.mk 0 0 0 0 0)).seq), (.int .i64 (hdUp (Hd.mk 0 0 0 0 0)).ep), (.int .i64 (hdUp (Hd.mk 0 0 0 0 0)).cut), (.int .i64 (hdUp (Hd.mk 0 0 0 0 0)).st), (.int .i64 (hdUp (Hd.mk 0 0 0 0 0)).mrk), (.pointer (some ⟨db18, 0, none⟩))] 95 (0, 0))], [Hp.one b40 (.cells #[(.int .i64 (hdUp (Hd.mk 0 0 0 0 0)).st), (.int .i64 (hdUp (Hd.mk 0 0 0 0 0)).cut)] 50 (0, 0))], [Hp.one b43 (.cells #[(.int .i64 (hdUp (Hd.mk 0 0 0 0 0)).st), (.int .i64 (hdUp (Hd.mk 0 0 0 0 0)).cut)] 50 (0, 0))], R] := Has.pick hH53 [2, 2, 2, 1, 0, 0] (by kernel_rfl)
        refine c_loop I55 _ ⟨0, (hdUp (Hd.mk 0 0 0 0 0)), (armS (useS (useS (Pw.mk false false 0 0))) (arm_ % 30)), ((List.replicate 2 blankS).set (svN 0 (Hd.mk 0 0 0 0 0)).toNat (hdL (hdUp (Hd.mk 0 0 0 0 0)))), sg27, rfl, hH56, Nat.zero_le _, hd28, (Few.new.use.use.arm (n := arm_ % 30) (by omega)), (show (useS (useS (Pw.mk false false 0 0))).off = false by decide +kernel), (by rw [List.length_set, List.length_replicate]), set_64 (full_blank _) (by decide +kernel), kp_start (by decide), (by decide), ⟨rfl, rfl⟩, ⟨⟨by decide, by decide⟩, by decide, by decide⟩, rfl, rfl, rfl, rfl, rfl, rfl, rfl, rfl, rfl, rfl, rfl, rfl⟩ ?_
        rintro n_ r59 w57 ⟨i, h3, p3, la3, sg3, rfl, hH58, hi, hd3, hfw3, hon3, hln3, h643, hkp3, hsq3, hz3, hb3, e54_0, e54_1, e54_2, e54_6, e54_7, e54_8, e54_9, e54_10, e54_11, e54_12, e54_26, e54_39⟩
        refine wp_seq_k fun K60 hK60 => ?_
        refine wp_seq_k fun K61 hK61 => ?_
        refine c_region ?_
        refine s_op (o_move (v := (.int .i64 (i : Int))) e54_12 ?_)
        refine s_op (o_move (v := v) e54_0 ?_)
        refine s_op (o_lenS Tryz.underlying58 rfl hv ?_)
        refine s_op (o_lss (a := (i : Int)) (b := ((l.length : Nat) : Int)) rfl rfl ?_)
        refine s_nil ?_
        refine t_norm (hK61 _ _ ?_)
        refine c_cond rfl (fun h62 => ?_) (fun h62 => ?_)
        · -- (i : Int) < ((l.length : Nat) : Int)
          refine wp_skip ?_
          refine t_norm (hK60 _ _ ?_)
          refine wp_seq_k fun K63 hK63 => ?_
          refine wp_block ?_
          refine wp_seq_k fun K64 hK64 => ?_
          refine c_region ?_
          refine s_op (o_move (v := (.pointer (some ⟨mb26, 0, none⟩))) e54_8 ?_)
          refine s_op (o_move (v := v) e54_0 ?_)
          refine s_op (o_move (v := (.int .i64 (i : Int))) e54_12 ?_)
          obtain ⟨x68, hx69⟩ : ∃ x_, l[((i : Int)).toNat]? = some x_ := get_some (by omega)
          refine s_op (o_indexF ptC_len Tryz.underlying58 ti50 rfl hv rfl rfl (by omega) hx69 fun b65 o66 hc67 => ?_)
          refine s_op (o_loadN (cs := [(.int .i64 x68.1), (.int .i64 x68.2)]) Tryz.underlying50 rfl ti50 rfl hH58 (seg_sub 5 rfl) hc67 ?_)
          by_cases hc70 : x68.1 < h3.st ∨ x68.2 < h3.cut
          · -- yes
            refine s_op (o_callf (vs := #[(.pointer (some ⟨mb26, 0, none⟩)), (.agg #[(.int .i64 x68.1), (.int .i64 x68.2)])]) ca24 rfl (args2 rfl rfl) (keep_arg (p := p3) (la := la3) (h := h3) (((hH58.front 2 rfl).front 2 rfl).front 2 rfl).all3 hd3 (hg.mono (seg_sub 2 rfl)) (hfw3.ok (by omega)) (hfw3.use.ok (by omega)) (by rw [hln3]; decide) (pl := x68.1) (pn := x68.2) hc70) ?_)
            rintro _ w74 ⟨rfl, hd71, hX72⟩
            refine ⟨_, rfl, ?_⟩
            have hH73 : Has E w74 [sg3, [Hp.one pb19 (.cells #[(.bool p3.off), (.bool p3.armed), (.int .i64 p3.left), (.int .i64 p3.uses)] 78 (0, 0))], [Hp.one mb26 (.cells #[(.int .i64 h3.st), (.int .i64 h3.cut), (.int .i64 h3.seq), (.int .i64 h3.ep), (.int .i64 h3.cut), (.int .i64 h3.st), (.int .i64 h3.mrk), (.pointer (some ⟨db18, 0, none⟩))] 95 (0, 0))], [Hp.one b40 (.cells #[(.int .i64 h3.st), (.int .i64 h3.cut)] 50 (0, 0))], [Hp.one b43 (.cells #[(.int .i64 h3.st), (.int .i64 h3.cut)] 50 (0, 0))], R] := hX72.of_all3
            refine s_op (o_assign (v := (.int .i64 (1 : Int))) rfl ?_)
            refine s_nil ?_
            refine t_norm (hK64 _ _ ?_)
            refine wp_seq_k fun K75 hK75 => ?_
            refine wp_seq_k fun K76 hK76 => ?_
            refine c_region ?_
            refine s_op (o_move (v := (.int .i64 (1 : Int))) rfl ?_)
            refine s_op (o_eql (a := (1 : Int)) (b := 0) rfl rfl ?_)
            refine s_nil ?_
            refine t_norm (hK76 _ _ ?_)
            refine c_cond rfl (fun h77 => ?_) (fun h77 => ?_)
            · -- (1 : Int) = 0
              exact absurd h77 (by decide)
            · -- not: (1 : Int) = 0
              refine wp_skip ?_
              refine t_norm (hK75 _ _ ?_)
              refine wp_seq_k fun K78 hK78 => ?_
              refine c_region ?_
              refine s_op (o_move (v := (.int .i64 (1 : Int))) rfl ?_)
              refine s_op (o_eql (a := (1 : Int)) (b := 6) rfl rfl ?_)
              refine s_nil ?_
              refine t_norm (hK78 _ _ ?_)
              refine c_cond rfl (fun h79 => ?_) (fun h79 => ?_)
              · -- (1 : Int) = 6
                exact absurd h79 (by decide)
              · -- not: (1 : Int) = 6
                refine wp_skip ?_
                refine b_norm ?_
                refine t_norm (hK63 _ _ ?_)
                refine c_region ?_
                refine s_op (o_move (v := (.int .i64 (i : Int))) e54_12 ?_)
                refine s_op (o_add (a := (i : Int)) (b := 1) rfl rfl (w64 (by omega) (by omega)) ?_)
                refine s_op (o_assign (v := (.int .i64 ((i : Int) + 1))) rfl ?_)
                refine s_nil ?_
                refine t_norm ⟨l.length - (i + 1), _, rfl, ?_, ?_⟩
                · omega
                · exact ⟨(i + 1), h3, p3, la3, sg3, rfl, hH73, (by omega), (hd71), (hfw3.mono (by omega)), (hon3), (hln3), (h643), (hkp3), (⟨by omega, by omega⟩), (hz3), (hb3), e54_0, e54_1, e54_2, e54_6, e54_7, e54_8, e54_9, e54_10, e54_11, rfl, e54_26, e54_39⟩
          · -- no
            by_cases hc80 : x68.1 = h3.st ∧ x68.2 = h3.cut
            · -- yes
              refine s_op (o_callf (vs := #[(.pointer (some ⟨mb26, 0, none⟩)), (.agg #[(.int .i64 x68.1), (.int .i64 x68.2)])]) ca24 rfl (args2 rfl rfl) (keep_same (p := p3) (la := la3) (h := h3) (((hH58.front 2 rfl).front 2 rfl).front 2 rfl).all3 hd3 (hg.mono (seg_sub 2 rfl)) (hfw3.ok (by omega)) (hfw3.use.ok (by omega)) (by rw [hln3]; decide) (pl := x68.1) (pn := x68.2) hc80.1 hc80.2) ?_)
              rintro _ w84 ⟨rfl, hd81, hX82⟩
              refine ⟨_, rfl, ?_⟩
              have hH83 : Has E w84 [sg3, [Hp.one pb19 (.cells #[(.bool p3.off), (.bool p3.armed), (.int .i64 p3.left), (.int .i64 p3.uses)] 78 (0, 0))], [Hp.one mb26 (.cells #[(.int .i64 h3.st), (.int .i64 h3.cut), (.int .i64 h3.seq), (.int .i64 h3.ep), (.int .i64 h3.cut), (.int .i64 h3.st), (.int .i64 h3.mrk), (.pointer (some ⟨db18, 0, none⟩))] 95 (0, 0))], [Hp.one b40 (.cells #[(.int .i64 h3.st), (.int .i64 h3.cut)] 50 (0, 0))], [Hp.one b43 (.cells #[(.int .i64 h3.st), (.int .i64 h3.cut)] 50 (0, 0))], R] := hX82.of_all3
              refine s_op (o_assign (v := (.int .i64 (0 : Int))) rfl ?_)
              refine s_nil ?_
              refine t_norm (hK64 _ _ ?_)
              refine wp_seq_k fun K85 hK85 => ?_
              refine wp_seq_k fun K86 hK86 => ?_
              refine c_region ?_
              refine s_op (o_move (v := (.int .i64 (0 : Int))) rfl ?_)
              refine s_op (o_eql (a := (0 : Int)) (b := 0) rfl rfl ?_)
              refine s_nil ?_
              refine t_norm (hK86 _ _ ?_)
              refine c_cond rfl (fun h87 => ?_) (fun h87 => ?_)
              · -- (0 : Int) = 0
                refine wp_seq_k fun K88 hK88 => ?_
                refine c_region ?_
                refine s_op (o_move (v := v) e54_0 ?_)
                refine s_op (o_move (v := (.int .i64 (i : Int))) e54_12 ?_)
                refine s_op (o_indexF ptC_len Tryz.underlying58 ti50 rfl hv rfl rfl (by omega) hx69 fun b89 o90 hc91 => ?_)
                refine s_op (o_loadN (cs := [(.int .i64 x68.1), (.int .i64 x68.2)]) Tryz.underlying50 rfl ti50 rfl hH83 (seg_sub 5 rfl) hc91 ?_)
                refine s_eff (o_storeN (vs := [(.int .i64 x68.1), (.int .i64 x68.2)]) (c' := #[(.int .i64 x68.1), (.int .i64 x68.2)]) ti50 e54_10 rfl rfl rfl (by intro u hu; simp only [List.mem_cons, List.not_mem_nil, or_false] at hu; rcases hu with rfl | rfl <;> first | rfl) (by simp) (by kernel_rfl) (hH83.front 3 rfl) fun w92 hH93 => ?_)
                refine s_nil ?_
                refine t_norm (hK88 _ _ ?_)
                refine c_region ?_
                refine s_op (o_loadN (cs := [(.int .i64 x68.1), (.int .i64 x68.2)]) Tryz.underlying50 rfl ti50 e54_10 hH93 (seg_sub 0 rfl) (CellsAt.one rfl) ?_)
                refine s_eff (o_storeN (vs := [(.int .i64 x68.1), (.int .i64 x68.2)]) (c' := #[(.int .i64 x68.1), (.int .i64 x68.2)]) ti50 e54_11 rfl rfl rfl (by intro u hu; simp only [List.mem_cons, List.not_mem_nil, or_false] at hu; rcases hu with rfl | rfl <;> first | rfl) (by simp) (by kernel_rfl) (hH93.front 4 rfl) fun w94 hH95 => ?_)
                refine s_nil ?_
                refine t_norm (hK85 _ _ ?_)
                refine wp_seq_k fun K96 hK96 => ?_
                refine c_region ?_
                refine s_op (o_move (v := (.int .i64 (0 : Int))) rfl ?_)
                refine s_op (o_eql (a := (0 : Int)) (b := 6) rfl rfl ?_)
                refine s_nil ?_
                refine t_norm (hK96 _ _ ?_)
                refine c_cond rfl (fun h97 => ?_) (fun h97 => ?_)
                · -- (0 : Int) = 6
                  exact absurd h97 (by decide)
                · -- not: (0 : Int) = 6
                  refine wp_skip ?_
                  refine b_norm ?_
                  refine t_norm (hK63 _ _ ?_)
                  refine c_region ?_
                  refine s_op (o_move (v := (.int .i64 (i : Int))) e54_12 ?_)
                  refine s_op (o_add (a := (i : Int)) (b := 1) rfl rfl (w64 (by omega) (by omega)) ?_)
                  refine s_op (o_assign (v := (.int .i64 ((i : Int) + 1))) rfl ?_)
                  refine s_nil ?_
                  have hH98 := hH95
                  rw [hc80.1, hc80.2] at hH98
                  have hH99 : Has E w94 [sg3, [Hp.one pb19 (.cells #[(.bool p3.off), (.bool p3.armed), (.int .i64 p3.left), (.int .i64 p3.uses)] 78 (0, 0))], [Hp.one mb26 (.cells #[(.int .i64 h3.st), (.int .i64 h3.cut), (.int .i64 h3.seq), (.int .i64 h3.ep), (.int .i64 h3.cut), (.int .i64 h3.st), (.int .i64 h3.mrk), (.pointer (some ⟨db18, 0, none⟩))] 95 (0, 0))], [Hp.one b40 (.cells #[(.int .i64 h3.st), (.int .i64 h3.cut)] 50 (0, 0))], [Hp.one b43 (.cells #[(.int .i64 h3.st), (.int .i64 h3.cut)] 50 (0, 0))], R] := Has.pick hH98 [2, 2, 2, 1, 0, 0] (by kernel_rfl)
                  refine t_norm ⟨l.length - (i + 1), _, rfl, ?_, ?_⟩
                  · omega
                  · exact ⟨(i + 1), h3, p3, la3, sg3, rfl, hH99, (by omega), (hd81), (hfw3.mono (by omega)), (hon3), (hln3), (h643), (hkp3), (⟨by omega, by omega⟩), (hz3), (hb3), e54_0, e54_1, e54_2, e54_6, e54_7, e54_8, e54_9, e54_10, e54_11, rfl, e54_26, e54_39⟩
              · -- not: (0 : Int) = 0
                exact absurd h87 (by decide)
            · -- no
              by_cases hc100 : (0 ≤ x68.1 ∧ x68.1 ≤ 4611686018427387903) ∧ (0 ≤ x68.2 ∧ x68.2 ≤ 4611686018427387903)
              · -- yes
                have hT_ : svTry la3.length 0 (hdK h3 x68.1 x68.2) := pt_try (by rw [hln3]; decide) ⟨by omega, by omega⟩ ⟨by omega, by omega⟩ ⟨by omega, by omega⟩
                by_cases hc101 : useB p3 = true ∧ useB (useS p3) = true
                · -- yes
                  refine s_op (o_callf (vs := #[(.pointer (some ⟨mb26, 0, none⟩)), (.agg #[(.int .i64 x68.1), (.int .i64 x68.2)])]) ca24 rfl (args2 rfl rfl) (keep_ok (p := p3) (la := la3) (h := h3) (((hH58.front 2 rfl).front 2 rfl).front 2 rfl).all3 hd3 (hg.mono (seg_sub 2 rfl)) (hfw3.ok (by omega)) (hfw3.use.ok (by omega)) (by rw [hln3]; decide) (pl := x68.1) (pn := x68.2) ⟨by omega, by omega⟩ (fun k => by omega) hT_ hc101.1 hc101.2) ?_)
                  rintro _ w106 ⟨sg103, rfl, hd102, hX104⟩
                  refine ⟨_, rfl, ?_⟩
                  have hH105 : Has E w106 [sg103, [Hp.one pb19 (.cells #[(.bool (useS (useS p3)).off), (.bool (useS (useS p3)).armed), (.int .i64 (useS (useS p3)).left), (.int .i64 (useS (useS p3)).uses)] 78 (0, 0))], [Hp.one mb26 (.cells #[(.int .i64 (hdUp (hdK h3 x68.1 x68.2)).st), (.int .i64 (hdUp (hdK h3 x68.1 x68.2)).cut), (.int .i64 (hdUp (hdK h3 x68.1 x68.2)).seq), (.int .i64 (hdUp (hdK h3 x68.1 x68.2)).ep), (.int .i64 (hdUp (hdK h3 x68.1 x68.2)).cut), (.int .i64 (hdUp (hdK h3 x68.1 x68.2)).st), (.int .i64 (hdUp (hdK h3 x68.1 x68.2)).mrk), (.pointer (some ⟨db18, 0, none⟩))] 95 (0, 0))], [Hp.one b40 (.cells #[(.int .i64 h3.st), (.int .i64 h3.cut)] 50 (0, 0))], [Hp.one b43 (.cells #[(.int .i64 h3.st), (.int .i64 h3.cut)] 50 (0, 0))], R] := hX104.of_all3
                  refine s_op (o_assign (v := (.int .i64 (0 : Int))) rfl ?_)
                  refine s_nil ?_
                  refine t_norm (hK64 _ _ ?_)
                  refine wp_seq_k fun K107 hK107 => ?_
                  refine wp_seq_k fun K108 hK108 => ?_
                  refine c_region ?_
                  refine s_op (o_move (v := (.int .i64 (0 : Int))) rfl ?_)
                  refine s_op (o_eql (a := (0 : Int)) (b := 0) rfl rfl ?_)
                  refine s_nil ?_
                  refine t_norm (hK108 _ _ ?_)
                  refine c_cond rfl (fun h109 => ?_) (fun h109 => ?_)
                  · -- (0 : Int) = 0
                    refine wp_seq_k fun K110 hK110 => ?_
                    refine c_region ?_
                    refine s_op (o_move (v := v) e54_0 ?_)
                    refine s_op (o_move (v := (.int .i64 (i : Int))) e54_12 ?_)
                    refine s_op (o_indexF ptC_len Tryz.underlying58 ti50 rfl hv rfl rfl (by omega) hx69 fun b111 o112 hc113 => ?_)
                    refine s_op (o_loadN (cs := [(.int .i64 x68.1), (.int .i64 x68.2)]) Tryz.underlying50 rfl ti50 rfl hH105 (seg_sub 5 rfl) hc113 ?_)
                    refine s_eff (o_storeN (vs := [(.int .i64 x68.1), (.int .i64 x68.2)]) (c' := #[(.int .i64 x68.1), (.int .i64 x68.2)]) ti50 e54_10 rfl rfl rfl (by intro u hu; simp only [List.mem_cons, List.not_mem_nil, or_false] at hu; rcases hu with rfl | rfl <;> first | rfl) (by simp) (by kernel_rfl) (hH105.front 3 rfl) fun w114 hH115 => ?_)
                    refine s_nil ?_
                    refine t_norm (hK110 _ _ ?_)
                    refine c_region ?_
                    refine s_op (o_loadN (cs := [(.int .i64 x68.1), (.int .i64 x68.2)]) Tryz.underlying50 rfl ti50 e54_10 hH115 (seg_sub 0 rfl) (CellsAt.one rfl) ?_)
                    refine s_eff (o_storeN (vs := [(.int .i64 x68.1), (.int .i64 x68.2)]) (c' := #[(.int .i64 x68.1), (.int .i64 x68.2)]) ti50 e54_11 rfl rfl rfl (by intro u hu; simp only [List.mem_cons, List.not_mem_nil, or_false] at hu; rcases hu with rfl | rfl <;> first | rfl) (by simp) (by kernel_rfl) (hH115.front 4 rfl) fun w116 hH117 => ?_)
                    refine s_nil ?_
                    refine t_norm (hK107 _ _ ?_)
                    refine wp_seq_k fun K118 hK118 => ?_
                    refine c_region ?_
                    refine s_op (o_move (v := (.int .i64 (0 : Int))) rfl ?_)
                    refine s_op (o_eql (a := (0 : Int)) (b := 6) rfl rfl ?_)
                    refine s_nil ?_
                    refine t_norm (hK118 _ _ ?_)
                    refine c_cond rfl (fun h119 => ?_) (fun h119 => ?_)
                    · -- (0 : Int) = 6
                      exact absurd h119 (by decide)
                    · -- not: (0 : Int) = 6
                      refine wp_skip ?_
                      refine b_norm ?_
                      refine t_norm (hK63 _ _ ?_)
                      refine c_region ?_
                      refine s_op (o_move (v := (.int .i64 (i : Int))) e54_12 ?_)
                      refine s_op (o_add (a := (i : Int)) (b := 1) rfl rfl (w64 (by omega) (by omega)) ?_)
                      refine s_op (o_assign (v := (.int .i64 ((i : Int) + 1))) rfl ?_)
                      refine s_nil ?_
                      have hH120 : Has E w116 [[Hp.one b43 (.cells #[(.int .i64 x68.1), (.int .i64 x68.2)] 50 (0, 0))], [Hp.one b40 (.cells #[(.int .i64 (hdUp (hdK h3 x68.1 x68.2)).st), (.int .i64 (hdUp (hdK h3 x68.1 x68.2)).cut)] 50 (0, 0))], sg103, [Hp.one pb19 (.cells #[(.bool (useS (useS p3)).off), (.bool (useS (useS p3)).armed), (.int .i64 (useS (useS p3)).left), (.int .i64 (useS (useS p3)).uses)] 78 (0, 0))], [Hp.one mb26 (.cells #[(.int .i64 (hdUp (hdK h3 x68.1 x68.2)).st), (.int .i64 (hdUp (hdK h3 x68.1 x68.2)).cut), (.int .i64 (hdUp (hdK h3 x68.1 x68.2)).seq), (.int .i64 (hdUp (hdK h3 x68.1 x68.2)).ep), (.int .i64 (hdUp (hdK h3 x68.1 x68.2)).cut), (.int .i64 (hdUp (hdK h3 x68.1 x68.2)).st), (.int .i64 (hdUp (hdK h3 x68.1 x68.2)).mrk), (.pointer (some ⟨db18, 0, none⟩))] 95 (0, 0))], R] := hH117
                      have hH121 : Has E w116 [[Hp.one b43 (.cells #[(.int .i64 (hdUp (hdK h3 x68.1 x68.2)).st), (.int .i64 (hdUp (hdK h3 x68.1 x68.2)).cut)] 50 (0, 0))], [Hp.one b40 (.cells #[(.int .i64 (hdUp (hdK h3 x68.1 x68.2)).st), (.int .i64 (hdUp (hdK h3 x68.1 x68.2)).cut)] 50 (0, 0))], sg103, [Hp.one pb19 (.cells #[(.bool (useS (useS p3)).off), (.bool (useS (useS p3)).armed), (.int .i64 (useS (useS p3)).left), (.int .i64 (useS (useS p3)).uses)] 78 (0, 0))], [Hp.one mb26 (.cells #[(.int .i64 (hdUp (hdK h3 x68.1 x68.2)).st), (.int .i64 (hdUp (hdK h3 x68.1 x68.2)).cut), (.int .i64 (hdUp (hdK h3 x68.1 x68.2)).seq), (.int .i64 (hdUp (hdK h3 x68.1 x68.2)).ep), (.int .i64 (hdUp (hdK h3 x68.1 x68.2)).cut), (.int .i64 (hdUp (hdK h3 x68.1 x68.2)).st), (.int .i64 (hdUp (hdK h3 x68.1 x68.2)).mrk), (.pointer (some ⟨db18, 0, none⟩))] 95 (0, 0))], R] := hH120
                      have hH122 : Has E w116 [sg103, [Hp.one pb19 (.cells #[(.bool (useS (useS p3)).off), (.bool (useS (useS p3)).armed), (.int .i64 (useS (useS p3)).left), (.int .i64 (useS (useS p3)).uses)] 78 (0, 0))], [Hp.one mb26 (.cells #[(.int .i64 (hdUp (hdK h3 x68.1 x68.2)).st), (.int .i64 (hdUp (hdK h3 x68.1 x68.2)).cut), (.int .i64 (hdUp (hdK h3 x68.1 x68.2)).seq), (.int .i64 (hdUp (hdK h3 x68.1 x68.2)).ep), (.int .i64 (hdUp (hdK h3 x68.1 x68.2)).cut), (.int .i64 (hdUp (hdK h3 x68.1 x68.2)).st), (.int .i64 (hdUp (hdK h3 x68.1 x68.2)).mrk), (.pointer (some ⟨db18, 0, none⟩))] 95 (0, 0))], [Hp.one b40 (.cells #[(.int .i64 (hdUp (hdK h3 x68.1 x68.2)).st), (.int .i64 (hdUp (hdK h3 x68.1 x68.2)).cut)] 50 (0, 0))], [Hp.one b43 (.cells #[(.int .i64 (hdUp (hdK h3 x68.1 x68.2)).st), (.int .i64 (hdUp (hdK h3 x68.1 x68.2)).cut)] 50 (0, 0))], R] := Has.pick hH121 [2, 2, 2, 1, 0, 0] (by kernel_rfl)
                      refine t_norm ⟨l.length - (i + 1), _, rfl, ?_, ?_⟩
                      · omega
                      · exact ⟨(i + 1), (hdUp (hdK h3 x68.1 x68.2)), (useS (useS p3)), (la3.set (svN 0 (hdK h3 x68.1 x68.2)).toNat (hdL (hdUp (hdK h3 x68.1 x68.2)))), sg103, rfl, hH122, (by omega), (hd102), (hfw3.use.use.mono (by omega)), ((useB_on hc101.2)), (by rw [List.length_set]; exact hln3), (set_64 h643 hT_.1), (hkp3.set hT_ rfl), (⟨by show 1 ≤ h3.seq + 1; omega, by show h3.seq + 1 ≤ _; omega⟩), (⟨rfl, rfl⟩), (⟨⟨by show 0 ≤ x68.1; omega, by show x68.1 ≤ _; omega⟩, by show 0 ≤ x68.2; omega, by show x68.2 ≤ _; omega⟩), e54_0, e54_1, e54_2, e54_6, e54_7, e54_8, e54_9, e54_10, e54_11, rfl, e54_26, e54_39⟩
                  · -- not: (0 : Int) = 0
                    exact absurd h109 (by decide)
                · -- no
                  refine s_op (o_callf (vs := #[(.pointer (some ⟨mb26, 0, none⟩)), (.agg #[(.int .i64 x68.1), (.int .i64 x68.2)])]) ca24 rfl (args2 rfl rfl) (keep_late (p := p3) (la := la3) (h := h3) (((hH58.front 2 rfl).front 2 rfl).front 2 rfl).all3 hd3 (hg.mono (seg_sub 2 rfl)) (hfw3.ok (by omega)) (hfw3.use.ok (by omega)) (by rw [hln3]; decide) (pl := x68.1) (pn := x68.2) ⟨by omega, by omega⟩ (fun k => by omega) hT_ hc101) ?_)
                  rintro _ w131 ⟨sg124, p125, lo126, rfl, h127, hlo128, hd123, hX129⟩
                  refine ⟨_, rfl, ?_⟩
                  have hH130 : Has E w131 [sg124, [Hp.one pb19 (.cells #[(.bool p125.off), (.bool p125.armed), (.int .i64 p125.left), (.int .i64 p125.uses)] 78 (0, 0))], [Hp.one mb26 (.cells #[(.int .i64 h3.st), (.int .i64 h3.cut), (.int .i64 h3.seq), (.int .i64 h3.ep), (.int .i64 h3.cut), (.int .i64 h3.st), (.int .i64 h3.mrk), (.pointer (some ⟨db18, 0, none⟩))] 95 (0, 0))], [Hp.one b40 (.cells #[(.int .i64 h3.st), (.int .i64 h3.cut)] 50 (0, 0))], [Hp.one b43 (.cells #[(.int .i64 h3.st), (.int .i64 h3.cut)] 50 (0, 0))], R] := hX129.of_all3
                  refine s_op (o_assign (v := (.int .i64 (6 : Int))) rfl ?_)
                  refine s_nil ?_
                  refine t_norm (hK64 _ _ ?_)
                  refine wp_seq_k fun K132 hK132 => ?_
                  refine wp_seq_k fun K133 hK133 => ?_
                  refine c_region ?_
                  refine s_op (o_move (v := (.int .i64 (6 : Int))) rfl ?_)
                  refine s_op (o_eql (a := (6 : Int)) (b := 0) rfl rfl ?_)
                  refine s_nil ?_
                  refine t_norm (hK133 _ _ ?_)
                  refine c_cond rfl (fun h134 => ?_) (fun h134 => ?_)
                  · -- (6 : Int) = 0
                    exact absurd h134 (by decide)
                  · -- not: (6 : Int) = 0
                    refine wp_skip ?_
                    refine t_norm (hK132 _ _ ?_)
                    refine wp_seq_k fun K135 hK135 => ?_
                    refine c_region ?_
                    refine s_op (o_move (v := (.int .i64 (6 : Int))) rfl ?_)
                    refine s_op (o_eql (a := (6 : Int)) (b := 6) rfl rfl ?_)
                    refine s_nil ?_
                    refine t_norm (hK135 _ _ ?_)
                    refine c_cond rfl (fun h136 => ?_) (fun h136 => ?_)
                    · -- (6 : Int) = 6
                      refine wp_seq_k fun K137 hK137 => ?_
                      refine c_region ?_
                      refine s_op (o_move (v := v) e54_0 ?_)
                      refine s_op (o_move (v := (.int .i64 (i : Int))) e54_12 ?_)
                      refine s_op (o_indexF ptC_len Tryz.underlying58 ti50 rfl hv rfl rfl (by omega) hx69 fun b138 o139 hc140 => ?_)
                      refine s_op (o_loadN (cs := [(.int .i64 x68.1), (.int .i64 x68.2)]) Tryz.underlying50 rfl ti50 rfl hH130 (seg_sub 5 rfl) hc140 ?_)
                      refine s_eff (o_storeN (vs := [(.int .i64 x68.1), (.int .i64 x68.2)]) (c' := #[(.int .i64 x68.1), (.int .i64 x68.2)]) ti50 e54_11 rfl rfl rfl (by intro u hu; simp only [List.mem_cons, List.not_mem_nil, or_false] at hu; rcases hu with rfl | rfl <;> first | rfl) (by simp) (by kernel_rfl) (hH130.front 4 rfl) fun w141 hH142 => ?_)
                      refine s_nil ?_
                      refine t_norm (hK137 _ _ ?_)
                      refine wp_exit ?_
                      refine x_out rfl (t_exit (t_exit (x_in (?_))))
                      refine t_norm (hK50 _ _ ?_)
                      refine wp_seq_k fun K143 hK143 => ?_
                      refine c_region ?_
                      refine s_op (o_move (v := (.pointer (some ⟨db18, 0, none⟩))) e54_7 ?_)
                      refine s_op (o_move (v := vk) e54_2 ?_)
                      refine s_op (o_callf (vs := #[(.pointer (some ⟨db18, 0, none⟩)), vk]) ca30 rfl (args2 rfl rfl) (crash_d (p := p125) (la := la3) (lo := lo126) ((hH142.front 2 rfl).front 2 rfl).all2 hd123 (lo_ok hT_ hlo128) (keep := keep) (hk_.mono (seg_sub 3 rfl))) ?_)
                      rintro _ w148 ⟨sg144, rfl, hd145, hX146⟩
                      refine ⟨_, rfl, ?_⟩
                      have hH147 : Has E w148 [sg144, [Hp.one pb19 (.cells #[(.bool (backS p125).off), (.bool (backS p125).armed), (.int .i64 (backS p125).left), (.int .i64 (backS p125).uses)] 78 (0, 0))], [Hp.one b43 (.cells #[(.int .i64 x68.1), (.int .i64 x68.2)] 50 (0, 0))], [Hp.one mb26 (.cells #[(.int .i64 h3.st), (.int .i64 h3.cut), (.int .i64 h3.seq), (.int .i64 h3.ep), (.int .i64 h3.cut), (.int .i64 h3.st), (.int .i64 h3.mrk), (.pointer (some ⟨db18, 0, none⟩))] 95 (0, 0))], [Hp.one b40 (.cells #[(.int .i64 h3.st), (.int .i64 h3.cut)] 50 (0, 0))], R] := hX146.of_all2
                      have hcl_ := crash_ld (p := p125) hkp3 hT_ rfl hlo128 keep
                      refine s_nil ?_
                      refine t_norm (hK143 _ _ ?_)
                      refine wp_seq_k fun K149 hK149 => ?_
                      refine c_region ?_
                      refine s_op (o_move (v := (.pointer (some ⟨db18, 0, none⟩))) e54_7 ?_)
                      refine s_op (o_callf (vs := #[(.pointer (some ⟨db18, 0, none⟩))]) ca23 rfl (args1 rfl) (open_yes (p := (backS p125)) (la := (settleS lo126 la3 keep)) ((hH147.front 1 rfl).front 1 rfl).all2 hd145 (hg.mono (seg_sub 3 rfl)) (crash_64 h643 hT_ hlo128 keep) (by rw [settle_len, hln3]; decide) (h := (ldH (backS p125) (settleS lo126 la3 keep) 0)) rfl hcl_.1 (hcl_.2.elim (fun q => by rw [q]; exact hz3.1) (fun q => by rw [q]; rfl)) (hcl_.2.elim (fun q => by rw [q]; exact hz3.2) (fun q => by rw [q]; rfl))) ?_)
                      rintro _ w153 ⟨mb150, rfl, hX151⟩
                      refine ⟨_, rfl, ?_⟩
                      have hH152 : Has E w153 [[Hp.one mb150 (.cells #[(.int .i64 (ldH (backS p125) (settleS lo126 la3 keep) 0).st), (.int .i64 (ldH (backS p125) (settleS lo126 la3 keep) 0).cut), (.int .i64 (ldH (backS p125) (settleS lo126 la3 keep) 0).seq), (.int .i64 (ldH (backS p125) (settleS lo126 la3 keep) 0).ep), (.int .i64 (ldH (backS p125) (settleS lo126 la3 keep) 0).cut), (.int .i64 (ldH (backS p125) (settleS lo126 la3 keep) 0).st), (.int .i64 (ldH (backS p125) (settleS lo126 la3 keep) 0).mrk), (.pointer (some ⟨db18, 0, none⟩))] 95 (0, 0))], sg144, [Hp.one pb19 (.cells #[(.bool (backS p125).off), (.bool (backS p125).armed), (.int .i64 (backS p125).left), (.int .i64 (backS p125).uses)] 78 (0, 0))], [Hp.one b43 (.cells #[(.int .i64 x68.1), (.int .i64 x68.2)] 50 (0, 0))], [Hp.one mb26 (.cells #[(.int .i64 h3.st), (.int .i64 h3.cut), (.int .i64 h3.seq), (.int .i64 h3.ep), (.int .i64 h3.cut), (.int .i64 h3.st), (.int .i64 h3.mrk), (.pointer (some ⟨db18, 0, none⟩))] 95 (0, 0))], [Hp.one b40 (.cells #[(.int .i64 h3.st), (.int .i64 h3.cut)] 50 (0, 0))], R] := hX151.of_all3
                      refine s_op (o_move (v := (.tuple #[(.pointer (some ⟨mb150, 0, none⟩)), (.int .i64 (0 : Int))])) rfl ?_)
                      refine s_op (o_extract (v := (.pointer (some ⟨mb150, 0, none⟩))) rfl rfl ?_)
                      refine s_op (o_extract (v := (.int .i64 (0 : Int))) rfl rfl ?_)
                      refine s_op (o_assign (v := (.pointer (some ⟨mb150, 0, none⟩))) rfl ?_)
                      refine s_op (o_assign (v := (.int .i64 (0 : Int))) rfl ?_)
                      refine s_nil ?_
                      refine t_norm (hK149 _ _ ?_)
                      refine wp_seq_k fun K154 hK154 => ?_
                      refine Rest.region mixed (by kernel_rfl) ?_
                      have hH155 : Has E { w153 with drawn := w153.drawn + 1 } [[Hp.one mb150 (.cells #[(.int .i64 (ldH (backS p125) (settleS lo126 la3 keep) 0).st), (.int .i64 (ldH (backS p125) (settleS lo126 la3 keep) 0).cut), (.int .i64 (ldH (backS p125) (settleS lo126 la3 keep) 0).seq), (.int .i64 (ldH (backS p125) (settleS lo126 la3 keep) 0).ep), (.int .i64 (ldH (backS p125) (settleS lo126 la3 keep) 0).cut), (.int .i64 (ldH (backS p125) (settleS lo126 la3 keep) 0).st), (.int .i64 (ldH (backS p125) (settleS lo126 la3 keep) 0).mrk), (.pointer (some ⟨db18, 0, none⟩))] 95 (0, 0))], sg144, [Hp.one pb19 (.cells #[(.bool (backS p125).off), (.bool (backS p125).armed), (.int .i64 (backS p125).left), (.int .i64 (backS p125).uses)] 78 (0, 0))], [Hp.one b43 (.cells #[(.int .i64 x68.1), (.int .i64 x68.2)] 50 (0, 0))], [Hp.one mb26 (.cells #[(.int .i64 h3.st), (.int .i64 h3.cut), (.int .i64 h3.seq), (.int .i64 h3.ep), (.int .i64 h3.cut), (.int .i64 h3.st), (.int .i64 h3.mrk), (.pointer (some ⟨db18, 0, none⟩))] 95 (0, 0))], [Hp.one b40 (.cells #[(.int .i64 h3.st), (.int .i64 h3.cut)] 50 (0, 0))], R] := Has0.drew hH152 _
                      refine r_op 0 rfl (by kernel_rfl) (o_move (v := (.int .i64 (0 : Int))) rfl ?_)
                      refine r_op 1 rfl (by kernel_rfl) (o_eql (a := (0 : Int)) (b := 0) rfl rfl ?_)
                      refine r_op 2 rfl (by kernel_rfl) (o_move (v := (.bool (decide ((0 : Int) = 0)))) rfl ?_)
                      by_cases h156 : (0 : Int) = 0
                      · -- (0 : Int) = 0
                        refine r_on 3 rfl (by kernel_rfl) 82 rfl (congrArg Value.bool (decide_eq_true h156)) (o_move (v := (.pointer (some ⟨mb150, 0, none⟩))) rfl ?_)
                        refine r_on 4 rfl (by kernel_rfl) 82 rfl (congrArg Value.bool (decide_eq_true h156)) (o_pnnil (p := some _) Tryz.underlying51 rfl rfl ?_)
                        refine r_op 5 rfl (by kernel_rfl) (o_pick_t (u := (.bool true)) ((rfl : _ = _).trans (congrArg Value.bool (decide_eq_true h156))) rfl ?_)
                        refine r_op 6 rfl (by kernel_rfl) (o_move (v := (.bool true)) rfl ?_)
                        refine Rest.phaseA (fun w_ => Has E w_ [[Hp.one b40 (.cells #[(.int .i64 h3.st), (.int .i64 h3.cut)] 50 (0, 0))]]) 7 10 3 rfl (by decide) (by kernel_rfl) ?_
                        refine a_on 7 rfl (by kernel_rfl) 86 rfl rfl (fun w_ h_ => o_move (v := (.pointer (some ⟨mb150, 0, none⟩))) rfl ⟨rfl, rfl⟩) ?_
                        refine a_on 9 rfl (by kernel_rfl) 86 rfl rfl (fun w_ h_ => o_loadN (cs := [(.int .i64 h3.st), (.int .i64 h3.cut)]) Tryz.underlying50 rfl ti50 e54_10 h_ (seg_sub 0 rfl) (CellsAt.one rfl) ⟨rfl, rfl⟩) ?_
                        have hH157 : Has E { w153 with drawn := w153.drawn + 1 } [[Hp.one b40 (.cells #[(.int .i64 h3.st), (.int .i64 h3.cut)] 50 (0, 0))]] := (hH155.front 5 rfl).first 1 rfl
                        refine a_won 8 rfl (by kernel_rfl) hH157 86 rfl rfl (o_callf (vs := #[(.pointer (some ⟨mb150, 0, none⟩))]) ca25 rfl (args1 rfl) (mpoint_c (h := (ldH (backS p125) (settleS lo126 la3 keep) 0)) (db := db18) hH155.all ((CellsAt.one rfl).mono (seg_sub 0 rfl))) ?_)
                        rintro _ w160 ⟨rfl, hX158⟩
                        refine ⟨_, rfl, ?_⟩
                        have hH159 := hX158.of_all
                        have hH161 : Has E w160 [[Hp.one b40 (.cells #[(.int .i64 h3.st), (.int .i64 h3.cut)] 50 (0, 0))]] := (hH159.front 5 rfl).first 1 rfl
                        refine a_done (by kernel_rfl) hH161 ?_
                        refine r_on 10 rfl (by kernel_rfl) 86 rfl rfl (o_eql50 ((ldH (backS p125) (settleS lo126 la3 keep) 0).st) ((ldH (backS p125) (settleS lo126 la3 keep) 0).cut) h3.st h3.cut rfl rfl ?_)
                        refine r_on 11 rfl (by kernel_rfl) 86 rfl rfl (o_move (v := (.bool (eqv50 ((ldH (backS p125) (settleS lo126 la3 keep) 0).st) ((ldH (backS p125) (settleS lo126 la3 keep) 0).cut) h3.st h3.cut))) rfl ?_)
                        refine Rest.phaseA (fun w_ => Has E w_ [[Hp.one b43 (.cells #[(.int .i64 x68.1), (.int .i64 x68.2)] 50 (0, 0))]]) 12 15 3 rfl (by decide) (by kernel_rfl) ?_
                        rcases Bool.eq_false_or_eq_true (eqv50 ((ldH (backS p125) (settleS lo126 la3 keep) 0).st) ((ldH (backS p125) (settleS lo126 la3 keep) 0).cut) h3.st h3.cut) with h162 | h162
                        · -- eqv50 ((ldH (backS p125) (settleS lo126 la3 keep) 0).st) ((ldH (backS p125) (settleS lo126 la3 keep) 0).cut) h3.st h3.cut
                          refine a_off (b' := true) 12 rfl (by kernel_rfl) 91 rfl (congrArg Value.bool h162) rfl ?_
                          refine a_off (b' := true) 14 rfl (by kernel_rfl) 91 rfl (congrArg Value.bool h162) rfl ?_
                          refine a_off (b' := true) 13 rfl (by kernel_rfl) 91 rfl (congrArg Value.bool h162) rfl ?_
                          have hH163 : Has E w160 [[Hp.one b43 (.cells #[(.int .i64 x68.1), (.int .i64 x68.2)] 50 (0, 0))]] := (hH159.front 3 rfl).first 1 rfl
                          refine a_done (by kernel_rfl) hH163 ?_
                          refine r_off (b' := true) 15 rfl (by kernel_rfl) 91 rfl (congrArg Value.bool h162) rfl ?_
                          refine r_on 16 rfl (by kernel_rfl) 86 rfl rfl (o_pick_t (u := (.bool true)) ((rfl : _ = _).trans (congrArg Value.bool h162)) rfl ?_)
                          refine r_op 17 rfl (by kernel_rfl) (o_pick_t (u := (.bool true)) rfl rfl ?_)
                          refine r_op 18 rfl (by kernel_rfl) (o_assign (v := (.bool true)) rfl ?_)
                          refine Rest.done (by kernel_rfl) ?_
                          refine t_norm (hK154 _ _ ?_)
                          refine wp_ret ?_
                          refine c_ret1 Tryz.results8  (v := (.bool true)) rfl ?_
                          have hH164 : Has E w160 [R] := (hH159.front 6 rfl).first 1 rfl
                          exact ⟨by first | rfl | (rw [show true = true by first | rfl | assumption]), hH164⟩
                        · -- not: eqv50 ((ldH (backS p125) (settleS lo126 la3 keep) 0).st) ((ldH (backS p125) (settleS lo126 la3 keep) 0).cut) h3.st h3.cut
                          refine a_on 12 rfl (by kernel_rfl) 91 rfl (congrArg Value.bool h162) (fun w_ h_ => o_move (v := (.pointer (some ⟨mb150, 0, none⟩))) rfl ⟨rfl, rfl⟩) ?_
                          refine a_on 14 rfl (by kernel_rfl) 91 rfl (congrArg Value.bool h162) (fun w_ h_ => o_loadN (cs := [(.int .i64 x68.1), (.int .i64 x68.2)]) Tryz.underlying50 rfl ti50 e54_11 h_ (seg_sub 0 rfl) (CellsAt.one rfl) ⟨rfl, rfl⟩) ?_
                          have hH165 : Has E w160 [[Hp.one b43 (.cells #[(.int .i64 x68.1), (.int .i64 x68.2)] 50 (0, 0))]] := (hH159.front 3 rfl).first 1 rfl
                          refine a_won 13 rfl (by kernel_rfl) hH165 91 rfl (congrArg Value.bool h162) (o_callf (vs := #[(.pointer (some ⟨mb150, 0, none⟩))]) ca25 rfl (args1 rfl) (mpoint_c (h := (ldH (backS p125) (settleS lo126 la3 keep) 0)) (db := db18) hH159.all ((CellsAt.one rfl).mono (seg_sub 0 rfl))) ?_)
                          rintro _ w168 ⟨rfl, hX166⟩
                          refine ⟨_, rfl, ?_⟩
                          have hH167 := hX166.of_all
                          have hH169 : Has E w168 [[Hp.one b43 (.cells #[(.int .i64 x68.1), (.int .i64 x68.2)] 50 (0, 0))]] := (hH167.front 3 rfl).first 1 rfl
                          refine a_done (by kernel_rfl) hH169 ?_
                          refine r_on 15 rfl (by kernel_rfl) 91 rfl (congrArg Value.bool h162) (o_eql50 ((ldH (backS p125) (settleS lo126 la3 keep) 0).st) ((ldH (backS p125) (settleS lo126 la3 keep) 0).cut) x68.1 x68.2 rfl rfl ?_)
                          refine r_on 16 rfl (by kernel_rfl) 86 rfl rfl (o_pick_f (u := (.bool (eqv50 ((ldH (backS p125) (settleS lo126 la3 keep) 0).st) ((ldH (backS p125) (settleS lo126 la3 keep) 0).cut) x68.1 x68.2))) ((rfl : _ = _).trans (congrArg Value.bool h162)) rfl ?_)
                          refine r_op 17 rfl (by kernel_rfl) (o_pick_t (u := (.bool (eqv50 ((ldH (backS p125) (settleS lo126 la3 keep) 0).st) ((ldH (backS p125) (settleS lo126 la3 keep) 0).cut) x68.1 x68.2))) rfl rfl ?_)
                          refine r_op 18 rfl (by kernel_rfl) (o_assign (v := (.bool (eqv50 ((ldH (backS p125) (settleS lo126 la3 keep) 0).st) ((ldH (backS p125) (settleS lo126 la3 keep) 0).cut) x68.1 x68.2))) rfl ?_)
                          refine Rest.done (by kernel_rfl) ?_
                          refine t_norm (hK154 _ _ ?_)
                          refine wp_ret ?_
                          refine c_ret1 Tryz.results8  (v := (.bool (eqv50 ((ldH (backS p125) (settleS lo126 la3 keep) 0).st) ((ldH (backS p125) (settleS lo126 la3 keep) 0).cut) x68.1 x68.2))) rfl ?_
                          have hH170 : Has E w168 [R] := (hH167.front 6 rfl).first 1 rfl
                          have hT2_ : eqv50 ((ldH (backS p125) (settleS lo126 la3 keep) 0).st) ((ldH (backS p125) (settleS lo126 la3 keep) 0).cut) x68.1 x68.2 = true := by
                            rcases hcl_.2 with q_ | q_
                            · exact absurd (show eqv50 ((ldH (backS p125) (settleS lo126 la3 keep) 0).st) ((ldH (backS p125) (settleS lo126 la3 keep) 0).cut) h3.st h3.cut = true from (eqv50_iff _ _ _ _).2 (by rw [q_]; exact ⟨rfl, rfl⟩)) (by rw [h162]; decide)
                            · exact (eqv50_iff _ _ _ _).2 (by rw [q_]; exact ⟨rfl, rfl⟩)
                          exact ⟨by rw [hT2_], hH170⟩
                      · -- not: (0 : Int) = 0
                        exact absurd h156 (by decide)
                    · -- not: (6 : Int) = 6
                      exact absurd h136 (by decide)
              · -- no
                refine s_op (o_callf (vs := #[(.pointer (some ⟨mb26, 0, none⟩)), (.agg #[(.int .i64 x68.1), (.int .i64 x68.2)])]) ca24 rfl (args2 rfl rfl) (keep_no (p := p3) (la := la3) (h := h3) (((hH58.front 2 rfl).front 2 rfl).front 2 rfl).all3 hd3 (hg.mono (seg_sub 2 rfl)) (hfw3.ok (by omega)) (hfw3.use.ok (by omega)) (by rw [hln3]; decide) (pl := x68.1) (pn := x68.2) ⟨by omega, by omega⟩ (fun k => by omega) (pt_bad (by omega))) ?_)
                rintro _ w175 ⟨sg172, rfl, hd171, hX173⟩
                refine ⟨_, rfl, ?_⟩
                have hH174 : Has E w175 [sg172, [Hp.one pb19 (.cells #[(.bool p3.off), (.bool p3.armed), (.int .i64 p3.left), (.int .i64 p3.uses)] 78 (0, 0))], [Hp.one mb26 (.cells #[(.int .i64 h3.st), (.int .i64 h3.cut), (.int .i64 h3.seq), (.int .i64 h3.ep), (.int .i64 h3.cut), (.int .i64 h3.st), (.int .i64 h3.mrk), (.pointer (some ⟨db18, 0, none⟩))] 95 (0, 0))], [Hp.one b40 (.cells #[(.int .i64 h3.st), (.int .i64 h3.cut)] 50 (0, 0))], [Hp.one b43 (.cells #[(.int .i64 h3.st), (.int .i64 h3.cut)] 50 (0, 0))], R] := hX173.of_all3
                refine s_op (o_assign (v := (.int .i64 (1 : Int))) rfl ?_)
                refine s_nil ?_
                refine t_norm (hK64 _ _ ?_)
                refine wp_seq_k fun K176 hK176 => ?_
                refine wp_seq_k fun K177 hK177 => ?_
                refine c_region ?_
                refine s_op (o_move (v := (.int .i64 (1 : Int))) rfl ?_)
                refine s_op (o_eql (a := (1 : Int)) (b := 0) rfl rfl ?_)
                refine s_nil ?_
                refine t_norm (hK177 _ _ ?_)
                refine c_cond rfl (fun h178 => ?_) (fun h178 => ?_)
                · -- (1 : Int) = 0
                  exact absurd h178 (by decide)
                · -- not: (1 : Int) = 0
                  refine wp_skip ?_
                  refine t_norm (hK176 _ _ ?_)
                  refine wp_seq_k fun K179 hK179 => ?_
                  refine c_region ?_
                  refine s_op (o_move (v := (.int .i64 (1 : Int))) rfl ?_)
                  refine s_op (o_eql (a := (1 : Int)) (b := 6) rfl rfl ?_)
                  refine s_nil ?_
                  refine t_norm (hK179 _ _ ?_)
                  refine c_cond rfl (fun h180 => ?_) (fun h180 => ?_)
                  · -- (1 : Int) = 6
                    exact absurd h180 (by decide)
                  · -- not: (1 : Int) = 6
                    refine wp_skip ?_
                    refine b_norm ?_
                    refine t_norm (hK63 _ _ ?_)
                    refine c_region ?_
                    refine s_op (o_move (v := (.int .i64 (i : Int))) e54_12 ?_)
                    refine s_op (o_add (a := (i : Int)) (b := 1) rfl rfl (w64 (by omega) (by omega)) ?_)
                    refine s_op (o_assign (v := (.int .i64 ((i : Int) + 1))) rfl ?_)
                    refine s_nil ?_
                    refine t_norm ⟨l.length - (i + 1), _, rfl, ?_, ?_⟩
                    · omega
                    · exact ⟨(i + 1), h3, p3, la3, sg172, rfl, hH174, (by omega), (hd171), (hfw3.mono (by omega)), (hon3), (hln3), (h643), (hkp3), (⟨by omega, by omega⟩), (hz3), (hb3), e54_0, e54_1, e54_2, e54_6, e54_7, e54_8, e54_9, e54_10, e54_11, rfl, e54_26, e54_39⟩
        · -- not: (i : Int) < ((l.length : Nat) : Int)
          refine wp_exit ?_
          refine t_exit (t_exit (x_in (?_)))
          refine t_norm (hK50 _ _ ?_)
          refine wp_seq_k fun K181 hK181 => ?_
          refine c_region ?_
          refine s_op (o_move (v := (.pointer (some ⟨db18, 0, none⟩))) e54_7 ?_)
          refine s_op (o_move (v := vk) e54_2 ?_)
          refine s_op (o_callf (vs := #[(.pointer (some ⟨db18, 0, none⟩)), vk]) ca30 rfl (args2 rfl rfl) (crash_d (p := p3) (la := la3) (lo := ([] : List (Int × Bs))) ((hH58.front 1 rfl).front 1 rfl).all2 hd3 (LoOk.nil _) (keep := keep) (hk_.mono (seg_sub 3 rfl))) ?_)
          rintro _ w186 ⟨sg182, rfl, hd183, hX184⟩
          refine ⟨_, rfl, ?_⟩
          have hH185 : Has E w186 [sg182, [Hp.one pb19 (.cells #[(.bool (backS p3).off), (.bool (backS p3).armed), (.int .i64 (backS p3).left), (.int .i64 (backS p3).uses)] 78 (0, 0))], [Hp.one mb26 (.cells #[(.int .i64 h3.st), (.int .i64 h3.cut), (.int .i64 h3.seq), (.int .i64 h3.ep), (.int .i64 h3.cut), (.int .i64 h3.st), (.int .i64 h3.mrk), (.pointer (some ⟨db18, 0, none⟩))] 95 (0, 0))], [Hp.one b40 (.cells #[(.int .i64 h3.st), (.int .i64 h3.cut)] 50 (0, 0))], [Hp.one b43 (.cells #[(.int .i64 h3.st), (.int .i64 h3.cut)] 50 (0, 0))], R] := hX184.of_all2
          have hd187 : DevAt pb19 sg182 db18 la3 [] := by have h_ := hd183; rw [settle_none] at h_; exact h_
          refine s_nil ?_
          refine t_norm (hK181 _ _ ?_)
          refine wp_seq_k fun K188 hK188 => ?_
          refine c_region ?_
          refine s_op (o_move (v := (.pointer (some ⟨db18, 0, none⟩))) e54_7 ?_)
          refine s_op (o_callf (vs := #[(.pointer (some ⟨db18, 0, none⟩))]) ca23 rfl (args1 rfl) (open_yes (p := (backS p3)) (la := la3) ((hH185.front 1 rfl).front 1 rfl).all2 hd187 (hg.mono (seg_sub 3 rfl)) h643 (by rw [hln3]; decide) (h := h3) (hkp3.ld (p := (backS p3)) (by rw [hln3]; decide) rfl).1 (hkp3.ld (p := (backS p3)) (by rw [hln3]; decide) rfl).2 hz3.1 hz3.2) ?_)
          rintro _ w192 ⟨mb189, rfl, hX190⟩
          refine ⟨_, rfl, ?_⟩
          have hH191 : Has E w192 [[Hp.one mb189 (.cells #[(.int .i64 h3.st), (.int .i64 h3.cut), (.int .i64 h3.seq), (.int .i64 h3.ep), (.int .i64 h3.cut), (.int .i64 h3.st), (.int .i64 h3.mrk), (.pointer (some ⟨db18, 0, none⟩))] 95 (0, 0))], sg182, [Hp.one pb19 (.cells #[(.bool (backS p3).off), (.bool (backS p3).armed), (.int .i64 (backS p3).left), (.int .i64 (backS p3).uses)] 78 (0, 0))], [Hp.one mb26 (.cells #[(.int .i64 h3.st), (.int .i64 h3.cut), (.int .i64 h3.seq), (.int .i64 h3.ep), (.int .i64 h3.cut), (.int .i64 h3.st), (.int .i64 h3.mrk), (.pointer (some ⟨db18, 0, none⟩))] 95 (0, 0))], [Hp.one b40 (.cells #[(.int .i64 h3.st), (.int .i64 h3.cut)] 50 (0, 0))], [Hp.one b43 (.cells #[(.int .i64 h3.st), (.int .i64 h3.cut)] 50 (0, 0))], R] := hX190.of_all3
          refine s_op (o_move (v := (.tuple #[(.pointer (some ⟨mb189, 0, none⟩)), (.int .i64 (0 : Int))])) rfl ?_)
          refine s_op (o_extract (v := (.pointer (some ⟨mb189, 0, none⟩))) rfl rfl ?_)
          refine s_op (o_extract (v := (.int .i64 (0 : Int))) rfl rfl ?_)
          refine s_op (o_assign (v := (.pointer (some ⟨mb189, 0, none⟩))) rfl ?_)
          refine s_op (o_assign (v := (.int .i64 (0 : Int))) rfl ?_)
          refine s_nil ?_
          refine t_norm (hK188 _ _ ?_)
          refine wp_seq_k fun K193 hK193 => ?_
          refine Rest.region mixed (by kernel_rfl) ?_
          have hH194 : Has E { w192 with drawn := w192.drawn + 1 } [[Hp.one mb189 (.cells #[(.int .i64 h3.st), (.int .i64 h3.cut), (.int .i64 h3.seq), (.int .i64 h3.ep), (.int .i64 h3.cut), (.int .i64 h3.st), (.int .i64 h3.mrk), (.pointer (some ⟨db18, 0, none⟩))] 95 (0, 0))], sg182, [Hp.one pb19 (.cells #[(.bool (backS p3).off), (.bool (backS p3).armed), (.int .i64 (backS p3).left), (.int .i64 (backS p3).uses)] 78 (0, 0))], [Hp.one mb26 (.cells #[(.int .i64 h3.st), (.int .i64 h3.cut), (.int .i64 h3.seq), (.int .i64 h3.ep), (.int .i64 h3.cut), (.int .i64 h3.st), (.int .i64 h3.mrk), (.pointer (some ⟨db18, 0, none⟩))] 95 (0, 0))], [Hp.one b40 (.cells #[(.int .i64 h3.st), (.int .i64 h3.cut)] 50 (0, 0))], [Hp.one b43 (.cells #[(.int .i64 h3.st), (.int .i64 h3.cut)] 50 (0, 0))], R] := Has0.drew hH191 _
          refine r_op 0 rfl (by kernel_rfl) (o_move (v := (.int .i64 (0 : Int))) rfl ?_)
          refine r_op 1 rfl (by kernel_rfl) (o_eql (a := (0 : Int)) (b := 0) rfl rfl ?_)
          refine r_op 2 rfl (by kernel_rfl) (o_move (v := (.bool (decide ((0 : Int) = 0)))) rfl ?_)
          by_cases h195 : (0 : Int) = 0
          · -- (0 : Int) = 0
            refine r_on 3 rfl (by kernel_rfl) 82 rfl (congrArg Value.bool (decide_eq_true h195)) (o_move (v := (.pointer (some ⟨mb189, 0, none⟩))) rfl ?_)
            refine r_on 4 rfl (by kernel_rfl) 82 rfl (congrArg Value.bool (decide_eq_true h195)) (o_pnnil (p := some _) Tryz.underlying51 rfl rfl ?_)
            refine r_op 5 rfl (by kernel_rfl) (o_pick_t (u := (.bool true)) ((rfl : _ = _).trans (congrArg Value.bool (decide_eq_true h195))) rfl ?_)
            refine r_op 6 rfl (by kernel_rfl) (o_move (v := (.bool true)) rfl ?_)
            refine Rest.phaseA (fun w_ => Has E w_ [[Hp.one b40 (.cells #[(.int .i64 h3.st), (.int .i64 h3.cut)] 50 (0, 0))]]) 7 10 3 rfl (by decide) (by kernel_rfl) ?_
            refine a_on 7 rfl (by kernel_rfl) 86 rfl rfl (fun w_ h_ => o_move (v := (.pointer (some ⟨mb189, 0, none⟩))) rfl ⟨rfl, rfl⟩) ?_
            refine a_on 9 rfl (by kernel_rfl) 86 rfl rfl (fun w_ h_ => o_loadN (cs := [(.int .i64 h3.st), (.int .i64 h3.cut)]) Tryz.underlying50 rfl ti50 e54_10 h_ (seg_sub 0 rfl) (CellsAt.one rfl) ⟨rfl, rfl⟩) ?_
            have hH196 : Has E { w192 with drawn := w192.drawn + 1 } [[Hp.one b40 (.cells #[(.int .i64 h3.st), (.int .i64 h3.cut)] 50 (0, 0))]] := (hH194.front 4 rfl).first 1 rfl
            refine a_won 8 rfl (by kernel_rfl) hH196 86 rfl rfl (o_callf (vs := #[(.pointer (some ⟨mb189, 0, none⟩))]) ca25 rfl (args1 rfl) (mpoint_c (h := h3) (db := db18) hH194.all ((CellsAt.one rfl).mono (seg_sub 0 rfl))) ?_)
            rintro _ w199 ⟨rfl, hX197⟩
            refine ⟨_, rfl, ?_⟩
            have hH198 := hX197.of_all
            have hH200 : Has E w199 [[Hp.one b40 (.cells #[(.int .i64 h3.st), (.int .i64 h3.cut)] 50 (0, 0))]] := (hH198.front 4 rfl).first 1 rfl
            refine a_done (by kernel_rfl) hH200 ?_
            refine r_on 10 rfl (by kernel_rfl) 86 rfl rfl (o_eql50 h3.st h3.cut h3.st h3.cut rfl rfl ?_)
            refine r_on 11 rfl (by kernel_rfl) 86 rfl rfl (o_move (v := (.bool (eqv50 h3.st h3.cut h3.st h3.cut))) rfl ?_)
            refine Rest.phaseA (fun w_ => Has E w_ []) 12 15 3 rfl (by decide) (by kernel_rfl) ?_
            rcases Bool.eq_false_or_eq_true (eqv50 h3.st h3.cut h3.st h3.cut) with h201 | h201
            · -- eqv50 h3.st h3.cut h3.st h3.cut
              refine a_off (b' := true) 12 rfl (by kernel_rfl) 91 rfl (congrArg Value.bool h201) rfl ?_
              refine a_off (b' := true) 14 rfl (by kernel_rfl) 91 rfl (congrArg Value.bool h201) rfl ?_
              refine a_off (b' := true) 13 rfl (by kernel_rfl) 91 rfl (congrArg Value.bool h201) rfl ?_
              have hH202 : Has E w199 [] := hH198.first 0 rfl
              refine a_done (by kernel_rfl) hH202 ?_
              refine r_off (b' := true) 15 rfl (by kernel_rfl) 91 rfl (congrArg Value.bool h201) rfl ?_
              refine r_on 16 rfl (by kernel_rfl) 86 rfl rfl (o_pick_t (u := (.bool true)) ((rfl : _ = _).trans (congrArg Value.bool h201)) rfl ?_)
              refine r_op 17 rfl (by kernel_rfl) (o_pick_t (u := (.bool true)) rfl rfl ?_)
              refine r_op 18 rfl (by kernel_rfl) (o_assign (v := (.bool true)) rfl ?_)
              refine Rest.done (by kernel_rfl) ?_
              refine t_norm (hK193 _ _ ?_)
              refine wp_ret ?_
              refine c_ret1 Tryz.results8  (v := (.bool true)) rfl ?_
              have hH203 : Has E w199 [R] := (hH198.front 6 rfl).first 1 rfl
              exact ⟨by first | rfl | (rw [show true = true by first | rfl | assumption]), hH203⟩
            · -- not: eqv50 h3.st h3.cut h3.st h3.cut
              exact absurd ((eqv50_iff _ _ _ _).2 ⟨rfl, rfl⟩) (by rw [h201]; decide)
          · -- not: (0 : Int) = 0
            exact absurd h195 (by decide)
end Go.Q
namespace Go.Q
theorem arr_cells {H : Type} {enc : TypeId × Value → H} {P : Program} {w : World} {base : Nat} {spare : Nat → Bool} {held : Bool} {fuel n : Nat} {t e : TypeId} {k : IntKind} {cs : List Value} {l : List Int} {p : List MemPlace}
    (ht : P.underlying t = some (.array n e)) (he : P.underlying e = some (.int k)) (hc : P.cellsOf e = 1) (hl : l.length = n)
    (h : DataW.trod enc P w base spare held fuel t cs = some (.agg (l.map fun z => (DataW.lit (Lit.int k z) : DataW H)), p)) : ∀ (i : Nat) (z : Int), l[i]? = some z → cs[i]? = some (Value.int k z) := by
  intro i z hz
  obtain ⟨xs, m, _, hx, _, hn, hel⟩ := DataW.trod_array ht h
  simp only [Prod.mk.injEq, DataW.agg.injEq] at hx
  have hi : i < n := by rw [← hl]; exact (List.getElem?_eq_some_iff.1 hz).1
  have h1 := hel i hi
  rw [hc, Nat.mul_one, List.getElem?_eq_getElem (by omega)] at h1
  obtain ⟨r, e1, e2, _⟩ := DataW.trod_int he h1
  have e3 : (xs.map (·.1))[i]? = some (DataW.lit (Lit.int k z)) := by rw [← hx.1, List.getElem?_map, hz]; rfl
  rw [List.getElem?_map, List.getElem?_eq_getElem (by omega), Option.map_some] at e3
  rw [e2] at e3
  have e4 : r = z := by simpa using e3
  subst e4
  have e5 : (List.take 1 (List.drop i cs))[0]? = some (.int k r) := by rw [e1]; rfl
  rw [List.getElem?_take, if_pos (by omega), List.getElem?_drop] at e5
  simpa using e5
theorem rd_u32 {H : Type} {enc : TypeId × Value → H} {P : Program} {w : World} {t : TypeId} {cs : List Value} (ht : P.underlying t = some (.int .u32)) (h : Rd enc P w t cs) : ∃ x : BitVec 32, cs = [.int .u32 (x.toNat : Int)] ∧ True := by
  obtain ⟨n, h1, h2⟩ := rd_int ht h
  have hb : 0 ≤ n ∧ n < 4294967296 := by
    simp [Lit.wf, IntKind.min, IntKind.max, IntKind.signed, IntKind.bits] at h2
    omega
  refine ⟨BitVec.ofNat 32 n.toNat, ?_, trivial⟩
  rw [h1, BitVec.toNat_ofNat, Nat.mod_eq_of_lt (by omega), Int.toNat_of_nonneg hb.1]
end Go.Q
namespace Go.Q
open Go.Proofs
set_option linter.unusedVariables false
set_option maxRecDepth 100000
attribute [local irreducible] wpList OK Code.wp
theorem rd_rhead {H : Type} {enc : TypeId × Value → H} {w : World} {cs : List Value} (h : Rd enc Tryz.prog w 23 cs) : ∃ a : Hd, cs = hdC a ∧ True := by
  obtain ⟨hl, hf⟩ := rd_struct Tryz.underlying23 h
  have hl : cs.length = 5 := hl.trans (by kernel_rfl)
  obtain ⟨c0, c1, c2, c3, c4, rfl⟩ : ∃ c0 c1 c2 c3 c4, cs = [c0, c1, c2, c3, c4] := by
    match cs, hl with
    | [c0, c1, c2, c3, c4], _ => exact ⟨c0, c1, c2, c3, c4, rfl⟩
  have f0_6 : Rd enc Tryz.prog w 3 [c0] := rd_field (i := 0) (k := 1) hf rfl rfl (by kernel_rfl) rfl
  obtain ⟨n0, e0, b0⟩ := rd_i64 Tryz.underlying3 f0_6
  obtain rfl := (List.cons.inj e0).1
  have f1_9 : Rd enc Tryz.prog w 3 [c1] := rd_field (i := 1) (k := 1) hf rfl rfl (by kernel_rfl) rfl
  obtain ⟨n1, e1, b1⟩ := rd_i64 Tryz.underlying3 f1_9
  obtain rfl := (List.cons.inj e1).1
  have f2_12 : Rd enc Tryz.prog w 3 [c2] := rd_field (i := 2) (k := 1) hf rfl rfl (by kernel_rfl) rfl
  obtain ⟨n2, e2, b2⟩ := rd_i64 Tryz.underlying3 f2_12
  obtain rfl := (List.cons.inj e2).1
  have f3_15 : Rd enc Tryz.prog w 3 [c3] := rd_field (i := 3) (k := 1) hf rfl rfl (by kernel_rfl) rfl
  obtain ⟨n3, e3, b3⟩ := rd_i64 Tryz.underlying3 f3_15
  obtain rfl := (List.cons.inj e3).1
  have f4_18 : Rd enc Tryz.prog w 3 [c4] := rd_field (i := 4) (k := 1) hf rfl rfl (by kernel_rfl) rfl
  obtain ⟨n4, e4, b4⟩ := rd_i64 Tryz.underlying3 f4_18
  obtain rfl := (List.cons.inj e4).1
  exact ⟨⟨n0, n1, n2, n3, n4⟩, rfl, trivial⟩
theorem rd_head {H : Type} {enc : TypeId × Value → H} {w : World} {cs : List Value} (h : Rd enc Tryz.prog w 27 cs) : ∃ a : Hd, cs = hdC a ∧ True := by
  obtain ⟨hl, hf⟩ := rd_struct Tryz.underlying27 h
  have hl : cs.length = 5 := hl.trans (by kernel_rfl)
  obtain ⟨c0, c1, c2, c3, c4, rfl⟩ : ∃ c0 c1 c2 c3 c4, cs = [c0, c1, c2, c3, c4] := by
    match cs, hl with
    | [c0, c1, c2, c3, c4], _ => exact ⟨c0, c1, c2, c3, c4, rfl⟩
  have f0_6 : Rd enc Tryz.prog w 3 [c0] := rd_field (i := 0) (k := 1) hf rfl rfl (by kernel_rfl) rfl
  obtain ⟨n0, e0, b0⟩ := rd_i64 Tryz.underlying3 f0_6
  obtain rfl := (List.cons.inj e0).1
  have f1_9 : Rd enc Tryz.prog w 3 [c1] := rd_field (i := 1) (k := 1) hf rfl rfl (by kernel_rfl) rfl
  obtain ⟨n1, e1, b1⟩ := rd_i64 Tryz.underlying3 f1_9
  obtain rfl := (List.cons.inj e1).1
  have f2_12 : Rd enc Tryz.prog w 3 [c2] := rd_field (i := 2) (k := 1) hf rfl rfl (by kernel_rfl) rfl
  obtain ⟨n2, e2, b2⟩ := rd_i64 Tryz.underlying3 f2_12
  obtain rfl := (List.cons.inj e2).1
  have f3_15 : Rd enc Tryz.prog w 3 [c3] := rd_field (i := 3) (k := 1) hf rfl rfl (by kernel_rfl) rfl
  obtain ⟨n3, e3, b3⟩ := rd_i64 Tryz.underlying3 f3_15
  obtain rfl := (List.cons.inj e3).1
  have f4_18 : Rd enc Tryz.prog w 3 [c4] := rd_field (i := 4) (k := 1) hf rfl rfl (by kernel_rfl) rfl
  obtain ⟨n4, e4, b4⟩ := rd_i64 Tryz.underlying3 f4_18
  obtain rfl := (List.cons.inj e4).1
  exact ⟨⟨n0, n1, n2, n3, n4⟩, rfl, trivial⟩
theorem rd_point {H : Type} {enc : TypeId × Value → H} {w : World} {cs : List Value} (h : Rd enc Tryz.prog w 50 cs) : ∃ a : Int × Int, cs = ptC a ∧ True := by
  obtain ⟨hl, hf⟩ := rd_struct Tryz.underlying50 h
  have hl : cs.length = 2 := hl.trans (by kernel_rfl)
  obtain ⟨c0, c1, rfl⟩ : ∃ c0 c1, cs = [c0, c1] := by
    match cs, hl with
    | [c0, c1], _ => exact ⟨c0, c1, rfl⟩
  have f0_6 : Rd enc Tryz.prog w 3 [c0] := rd_field (i := 0) (k := 1) hf rfl rfl (by kernel_rfl) rfl
  obtain ⟨n0, e0, b0⟩ := rd_i64 Tryz.underlying3 f0_6
  obtain rfl := (List.cons.inj e0).1
  have f1_9 : Rd enc Tryz.prog w 3 [c1] := rd_field (i := 1) (k := 1) hf rfl rfl (by kernel_rfl) rfl
  obtain ⟨n1, e1, b1⟩ := rd_i64 Tryz.underlying3 f1_9
  obtain rfl := (List.cons.inj e1).1
  exact ⟨⟨n0, n1⟩, rfl, trivial⟩
theorem rd_points {H : Type} {enc : TypeId × Value → H} {w : World} {cs : List Value} (h : Rd enc Tryz.prog w 58 cs) : ∃ (v : Value) (l : List (Int × Int)), cs = [v] ∧ Sl [Hp.of w] 2 v l.length (l.flatMap ptC) ∧ ∀ a ∈ l, True :=
  rd_rows Tryz.underlying58 (by kernel_rfl) (by decide) ptC_len (fun r hr => rd_point hr) h
end Go.Q
