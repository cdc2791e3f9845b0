/-
  Results that lie in a block: a struct that is named as a result.
-/
import Derived.Test.YtagicdbeacmffaaDoorQX
set_option linter.unusedVariables false
set_option linter.unusedSimpArgs false
namespace Go.Q
section
variable {P : Program} {E w : World} {ss : List (List Hp)} {N : Nat} {r : Nat → Value}
theorem run_loadVarN {t : TypeId} {d : TypeDesc} {L : List Hp} {b off : Nat} {cs : List Value} {z : Value} {by_ : Nat} (ht : P.underlying t = some d) (hd : aggB d = true)
    (hi : TI P t z cs.length by_) (H : Has E w ss) (hL : L ⊆ ss.flatten) (hc : CellsAt L b off cs) : (loadVar t ⟨b, off, none⟩).run P w = .ok (.agg cs.toArray) w := by
  simp only [Sem.run_bind, Sem.run_pure, Result.andThen_ok, loadVar, run_isAgg ht, hd, if_true, hi.size]
  rw [run_loadCells_list (P := P) (w := w) ⟨b, off, none⟩ cs (fun j v hv => by rw [add_lit]; exact H.cell hL hc hv)]
  rfl
theorem c_retC1 {fn : Func} {R : Ending → World → Prop} {t : Tmp} {T : TypeId} {a : Addr} {v : Value} (hr : fn.results = #[.cell t T]) (hv : ev N r (.tmp t) = .pointer (some a)) (hl : (loadVar T a).run P w = .ok v w) (hR : R (.returned v) w) :
    bodyPost P fn R .ret (Go.Q.fr N r) w := by
  refine bodyPost_ret (v := v) ?_ rfl hR
  have e : ∀ t, (Go.Q.fr N r).tmps[t]?.getD undef = ev N r (.tmp t) := fun t => by rw [← getD_fr, Array.getD_eq_getD_getElem?]
  simp [results, hr, e, hv, asAddr, hl]
theorem c_retC2 {fn : Func} {R : Ending → World → Prop} {t u : Tmp} {T : TypeId} {a : Addr} {v x : Value} (hr : fn.results = #[.cell t T, .tmp u]) (hv : ev N r (.tmp t) = .pointer (some a)) (hl : (loadVar T a).run P w = .ok v w) (hx : ev N r (.tmp u) = x)
    (hR : R (.returned (.tuple #[v, x])) w) : bodyPost P fn R .ret (Go.Q.fr N r) w := by
  refine bodyPost_ret (v := .tuple #[v, x]) ?_ rfl hR
  have e : ∀ t, (Go.Q.fr N r).tmps[t]?.getD undef = ev N r (.tmp t) := fun t => by rw [← getD_fr, Array.getD_eq_getD_getElem?]
  simp [results, hr, e, hv, asAddr, hl, hx]
theorem c_retC3 {fn : Func} {R : Ending → World → Prop} {t u s : Tmp} {T : TypeId} {a : Addr} {v x y : Value} (hr : fn.results = #[.cell t T, .tmp u, .tmp s]) (hv : ev N r (.tmp t) = .pointer (some a)) (hl : (loadVar T a).run P w = .ok v w) (hx : ev N r (.tmp u) = x) (hy : ev N r (.tmp s) = y)
    (hR : R (.returned (.tuple #[v, x, y])) w) : bodyPost P fn R .ret (Go.Q.fr N r) w := by
  refine bodyPost_ret (v := .tuple #[v, x, y]) ?_ rfl hR
  have e : ∀ t, (Go.Q.fr N r).tmps[t]?.getD undef = ev N r (.tmp t) := fun t => by rw [← getD_fr, Array.getD_eq_getD_getElem?]
  simp [results, hr, e, hv, asAddr, hl, hx, hy]
end
end Go.Q
