/-
  Two frames compared, as the program compares structs.
-/
import Derived.Test.YtagicdbeacmffaaDoorQFrame2
import Derived.Test.YtagicdbeacmffaaDoorQVBase
import Derived.Laws.StructEq
set_option linter.unusedVariables false
set_option linter.unusedSimpArgs false
namespace Go.Q
open Go.Proofs
set_option maxRecDepth 100000
/-- two frames are the same -/
def frEq (f g : Fr) : Bool := decide (f.ep = g.ep) && (decide (f.pl = g.pl) && (decide (f.gsn = g.gsn) && decide (f.data = g.data)))
theorem frEq_iff {f g : Fr} : frEq f g = true ↔ f = g := by
  obtain ⟨a, b, c, d⟩ := f
  obtain ⟨a', b', c', d'⟩ := g
  simp [frEq]
theorem frEq_refl (f : Fr) : frEq f f = true := frEq_iff.2 rfl
/-- two rows of frames are the same -/
def sameF : List Fr → List Fr → Bool
  | [], [] => true
  | x :: a, y :: b => frEq x y && sameF a b
  | _, _ => false
theorem sameF_iff : ∀ {a b : List Fr}, sameF a b = true ↔ a = b
  | [], [] => by simp [sameF]
  | [], y :: b => by simp [sameF]
  | x :: a, [] => by simp [sameF]
  | x :: a, y :: b => by rw [sameF, Bool.and_eq_true, frEq_iff, sameF_iff]; simp
theorem sameF_no {a b : List Fr} (h : ¬ a = b) : sameF a b = false := by
  cases e : sameF a b with
  | false => rfl
  | true => exact absurd (sameF_iff.1 e) h
theorem S_beq (a b : List UInt8) : ((⟨a.toArray⟩ : ByteArray).toList == (⟨b.toArray⟩ : ByteArray).toList) = decide (a = b) := by
  rw [bytes_toList, bytes_toList]
  by_cases h : a = b
  · subst h; simp
  · rw [decide_eq_false h]; simpa using h
theorem int_beq (a b : Int) : (a == b) = decide (a = b) := by
  by_cases h : a = b
  · subst h; simp
  · rw [decide_eq_false h]; simpa using h
theorem run_part1 {P : Program} {t : TypeId} {d : TypeDesc} (ht : P.underlying t = some d) (hd : aggB d = false) {xs : Array Value} {o : Nat} {v : Value} (hv : xs[o]? = some v) (w : World) : (part t xs o).run P w = .ok v w := by
  unfold part
  rw [Sem.run_bind, run_isAgg ht, hd]
  simp [hv]
theorem eqF_cons {P : Program} {d : Nat} {xs ys : Array Value} {f : Field} {fs : List Field} {a b : Value} {r r' : Bool} {w : World} (hn : (f.name == "_") = false) (ha : (part f.type xs f.offset).run P w = .ok a w) (hb : (part f.type ys f.offset).run P w = .ok b w)
    (he : (Op.equalIn d f.type a b).run P w = .ok r w) (hk : (Op.eqFields d xs ys fs).run P w = .ok r' w) : (Op.eqFields d xs ys (f :: fs)).run P w = .ok (r && r') w := by
  have hn' : f.name ≠ "_" := by simpa using hn
  rw [Op.eqFields, if_pos hn']
  simp only [Sem.run_bind, ha, hb, he, Result.andThen_ok]
  cases r
  · simp
  · simpa using hk
theorem eqFrF {d : Nat} {w : World} (f g : Fr) : (Op.eqFields (d + 1) #[.int .i64 f.ep, .int .i64 f.pl, .int .i64 f.gsn, S f.data] #[.int .i64 g.ep, .int .i64 g.pl, .int .i64 g.gsn, S g.data] (Tryd.prog.fieldsOf 40).toList).run Tryd.prog w = .ok (frEq f g) w := by
  have hf : (Tryd.prog.fieldsOf 40).toList.map (fun f => (f.type, f.offset, f.name == "_")) = [(3, 0, false), (3, 1, false), (3, 2, false), (9, 3, false)] := by kernel_rfl
  generalize (Tryd.prog.fieldsOf 40).toList = l at hf ⊢
  obtain ⟨a, b, c, e, rfl⟩ : ∃ a b c e, l = [a, b, c, e] := by
    have hl : l.length = 4 := by have := congrArg List.length hf; simpa using this
    match l, hl with
    | [a, b, c, e], _ => exact ⟨a, b, c, e, rfl⟩
  simp only [List.map_cons, List.map_nil, List.cons.injEq, Prod.mk.injEq, and_true] at hf
  obtain ⟨⟨a1, a2, a3⟩, ⟨b1, b2, b3⟩, ⟨c1, c2, c3⟩, ⟨e1, e2, e3⟩⟩ := hf
  refine eqF_cons (a := .int .i64 f.ep) (b := .int .i64 g.ep) a3 (by rw [a1, a2]; exact run_part1 Tryd.underlying3 rfl rfl w) (by rw [a1, a2]; exact run_part1 Tryd.underlying3 rfl rfl w) (by rw [a1, run_equalIn_int w d 3 _ _ _ _ Tryd.underlying3, int_beq]) ?_
  refine eqF_cons (a := .int .i64 f.pl) (b := .int .i64 g.pl) b3 (by rw [b1, b2]; exact run_part1 Tryd.underlying3 rfl rfl w) (by rw [b1, b2]; exact run_part1 Tryd.underlying3 rfl rfl w) (by rw [b1, run_equalIn_int w d 3 _ _ _ _ Tryd.underlying3, int_beq]) ?_
  refine eqF_cons (a := .int .i64 f.gsn) (b := .int .i64 g.gsn) c3 (by rw [c1, c2]; exact run_part1 Tryd.underlying3 rfl rfl w) (by rw [c1, c2]; exact run_part1 Tryd.underlying3 rfl rfl w) (by rw [c1, run_equalIn_int w d 3 _ _ _ _ Tryd.underlying3, int_beq]) ?_
  have := eqF_cons (P := Tryd.prog) (d := d + 1) (w := w) (fs := []) (r' := true) (a := S f.data) (b := S g.data) e3 (by rw [e1, e2]; exact run_part1 (xs := #[.int .i64 f.ep, .int .i64 f.pl, .int .i64 f.gsn, S f.data]) Tryd.underlying9 rfl rfl w) (by rw [e1, e2]; exact run_part1 (xs := #[.int .i64 g.ep, .int .i64 g.pl, .int .i64 g.gsn, S g.data]) Tryd.underlying9 rfl rfl w) (by rw [e1]; exact run_equalIn_string w d 9 _ _ Tryd.underlying9) rfl
  rw [S_beq, Bool.and_true] at this
  exact this
section ops
variable {ρ : Operand → Value} {w : World} {K : Value → World → Prop} {dst : Option Tmp} {T : TypeId} {pos : String} {after : Array Edge} {g : Option (Nat × Bool)}
theorem o_eqFr {t u : TypeId} {x y : Operand} {a b : Fr} (ht : t = 40 ∨ t = 43) (hx : ρ x = .agg #[.int .i64 a.ep, .int .i64 a.pl, .int .i64 a.gsn, S a.data]) (hy : ρ y = .agg #[.int .i64 b.ep, .int .i64 b.pl, .int .i64 b.gsn, S b.data]) (h : K (.bool (frEq a b)) w) :
    OK Tryd.prog ⟨dst, .binOp .eql t x y u, T, pos, after, g⟩ ρ w K := by
  refine o_eqx hx hy (run_eqGuard_agg w _ _ _ _ _ _ (by rcases ht with rfl | rfl <;> kernel_rfl)) rfl ?_ h
  rcases ht with rfl | rfl
  · rw [run_equalIn_struct w _ 40 _ _ (by kernel_rfl) (by kernel_rfl)]; exact eqFrF a b
  · rw [run_equalIn_struct w _ 43 _ _ (by kernel_rfl) (by kernel_rfl), show Tryd.prog.fieldsOf 43 = Tryd.prog.fieldsOf 40 from by kernel_rfl]; exact eqFrF a b
theorem o_neFr {t u : TypeId} {x y : Operand} {a b : Fr} (ht : t = 40 ∨ t = 43) (hx : ρ x = .agg #[.int .i64 a.ep, .int .i64 a.pl, .int .i64 a.gsn, S a.data]) (hy : ρ y = .agg #[.int .i64 b.ep, .int .i64 b.pl, .int .i64 b.gsn, S b.data]) (h : K (.bool (!(frEq a b))) w) :
    OK Tryd.prog ⟨dst, .binOp .neq t x y u, T, pos, after, g⟩ ρ w K := by
  refine o_nex hx hy (run_eqGuard_agg w _ _ _ _ _ _ (by rcases ht with rfl | rfl <;> kernel_rfl)) rfl ?_ h
  rcases ht with rfl | rfl
  · rw [run_equalIn_struct w _ 40 _ _ (by kernel_rfl) (by kernel_rfl)]; exact eqFrF a b
  · rw [run_equalIn_struct w _ 43 _ _ (by kernel_rfl) (by kernel_rfl), show Tryd.prog.fieldsOf 43 = Tryd.prog.fieldsOf 40 from by kernel_rfl]; exact eqFrF a b
end ops
end Go.Q
