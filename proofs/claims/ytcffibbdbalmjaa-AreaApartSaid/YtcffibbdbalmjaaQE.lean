/-
  Control: branches, loops with a variant in the invariant, results; regions that draw their order.
-/
import Derived.Test.YtcffibbdbalmjaaQD
set_option linter.unusedVariables false
set_option linter.unusedSimpArgs false
namespace Go.Q

section control
variable {P : Program} {Q : Exit → Act → World → Prop} {w : World} {N : Nat} {r : Nat → Value}

theorem c_cond {p : Prop} [Decidable p] {c : Operand} {x y : Code} (hc : ev N r c = .bool (decide p)) (ht : p → x.wp P Q (fr N r) w) (hf : ¬ p → y.wp P Q (fr N r) w) : (Code.cond c x y).wp P Q (fr N r) w :=
  wp_cond_split (t := decide p) (by rw [fr_eval]; exact hc) (fun h => ht (of_decide_eq_true h)) (fun h => hf (of_decide_eq_false h))
theorem c_condb {b : Bool} {c : Operand} {x y : Code} (hc : ev N r c = .bool b) (ht : b = true → x.wp P Q (fr N r) w) (hf : b = false → y.wp P Q (fr N r) w) : (Code.cond c x y).wp P Q (fr N r) w :=
  wp_cond_split (t := b) (by rw [fr_eval]; exact hc) ht hf
theorem c_true {c : Operand} {x y : Code} {b : Bool} (hc : ev N r c = .bool b) (hb : b = true) (h : x.wp P Q (fr N r) w) : (Code.cond c x y).wp P Q (fr N r) w :=
  wp_cond_true (by rw [fr_eval, hc, hb]) h
theorem c_false {c : Operand} {x y : Code} {b : Bool} (hc : ev N r c = .bool b) (hb : b = false) (h : y.wp P Q (fr N r) w) : (Code.cond c x y).wp P Q (fr N r) w :=
  wp_cond_false (by rw [fr_eval, hc, hb]) h
theorem c_region {id : Nat} {ops : List Oper} (h : wpList P ops.toArray Q ops (fr N r) w) : (Code.region id ops.toArray false).wp P Q (fr N r) w := wp_region_lit h

theorem x_in {id : Nat} {a : Act} (h : Q .normal a w) : Exit.inBlock id Q (.exit id) a w := by simp only [Exit.inBlock, if_true]; exact h
theorem x_out {id id' : Nat} {a : Act} (hne : (id' == id) = false) (h : Q (.exit id') a w) : Exit.inBlock id Q (.exit id') a w := by
  have : id' ≠ id := by simpa using hne
  simp only [Exit.inBlock, if_neg this]; exact h

/-- A loop: the invariant bears a number that every round lowers. -/
theorem c_loop {c : Code} (I : Nat → (Nat → Value) → World → Prop) (n₀ : Nat) (h₀ : I n₀ r w)
    (round : ∀ n r w, I n r w → c.wp P (Exit.then (fun a' w' => ∃ m r', a' = fr N r' ∧ m < n ∧ I m r' w') Q) (fr N r) w) : (Code.loop c).wp P Q (fr N r) w := by
  intro b k cs
  have key : ∀ n r w, I n r w →
      ∃ e a' w', Q e a' w' ∧ Arrives P (lone (b.at (fr N r) (.code c :: .inLoop c :: k)) cs w) b k cs e a' w' := by
    intro n
    induction n using Nat.strongRecOn with
    | _ n ih =>
      intro r w hI
      obtain ⟨e, a₁, w₁, hq, harr⟩ := round n r w hI b (.inLoop c :: k) cs
      cases e with
      | normal =>
        obtain ⟨m, r₁, rfl, hlt, hI₁⟩ := hq
        obtain ⟨e₂, a₂, w₂, hq₂, harr₂⟩ := ih m hlt r₁ w₁ hI₁
        exact ⟨e₂, a₂, w₂, hq₂, .of_steps (Steps.trans harr (.one step_inLoop)) harr₂⟩
      | exit id => exact ⟨_, a₁, w₁, hq, .pass (x := .inLoop c) rfl (fun _ _ => .inl (by simp)) harr⟩
      | goto l => exact ⟨_, a₁, w₁, hq, .pass (x := .inLoop c) rfl (fun _ _ => .inl (by simp)) harr⟩
      | ret => exact ⟨_, a₁, w₁, hq, .pass (x := .inLoop c) rfl (fun _ _ => .inl (by simp)) harr⟩
      | panic ch => exact ⟨_, a₁, w₁, hq, .pass (x := .inLoop c) rfl (fun _ _ => .inl (by simp)) harr⟩
      | outgrown => exact ⟨_, a₁, w₁, hq, .pass (x := .inLoop c) rfl (fun _ _ => .inl (by simp)) harr⟩
  obtain ⟨e, a', w', hq, harr⟩ := key n₀ r w h₀
  exact ⟨e, a', w', hq, .of_steps (.one step_loop) harr⟩

/-- the ends -/
theorem c_ret0 {fn : Func} {R : Ending → World → Prop} (hr : fn.results = #[]) (hR : R (.returned (.tuple #[])) w) : bodyPost P fn R .ret (fr N r) w :=
  bodyPost_ret (results_none hr _ _ _) rfl hR
theorem c_end0 {fn : Func} {R : Ending → World → Prop} (hr : fn.results = #[]) (hR : R (.returned (.tuple #[])) w) : bodyPost P fn R .normal (fr N r) w :=
  bodyPost_end (results_none hr _ _ _) rfl hR
theorem getD_fr (t : Nat) : (fr N r).tmps.getD t undef = ev N r (.tmp t) := by rw [← fr_eval]; rfl
theorem c_ret1 {fn : Func} {R : Ending → World → Prop} {t : Tmp} {v : Value} (hr : fn.results = #[.tmp t]) (hv : ev N r (.tmp t) = v) (hR : R (.returned v) w) : bodyPost P fn R .ret (fr N r) w :=
  bodyPost_ret (v := v) (by rw [results_tmp hr, getD_fr, hv]) rfl hR
theorem c_ret2 {fn : Func} {R : Ending → World → Prop} {t u : Tmp} {v x : Value} (hr : fn.results = #[.tmp t, .tmp u]) (hv : ev N r (.tmp t) = v) (hx : ev N r (.tmp u) = x)
    (hR : R (.returned (.tuple #[v, x])) w) : bodyPost P fn R .ret (fr N r) w :=
  bodyPost_ret (v := .tuple #[v, x]) (by rw [results_tmp2 hr, getD_fr, getD_fr, hv, hx]) rfl hR
theorem c_ret3 {fn : Func} {R : Ending → World → Prop} {t u s : Tmp} {v x y : Value} (hr : fn.results = #[.tmp t, .tmp u, .tmp s]) (hv : ev N r (.tmp t) = v) (hx : ev N r (.tmp u) = x) (hy : ev N r (.tmp s) = y)
    (hR : R (.returned (.tuple #[v, x, y])) w) : bodyPost P fn R .ret (fr N r) w := by
  refine bodyPost_ret (v := .tuple #[v, x, y]) ?_ rfl hR
  have e : ∀ t, (fr N r).tmps[t]?.getD undef = ev N r (.tmp t) := fun t => by rw [← getD_fr, Array.getD_eq_getD_getElem?]
  simp [results, hr, e, ← hv, ← hx, ← hy]
theorem c_enter {f : FuncId} {fn : Func} {c : Code} {args : List Value} {R : Ending → World → Prop} {N : Nat} (hf : P.funcs[f]? = some fn) (hb : fn.body = some c) (hn : fn.ntmps = N) (hN : args.length ≤ N)
    (h : c.wp P (bodyPost P fn R) (fr N (base args)) w) : Calls P f args.toArray w R := by
  refine calls_of_wp hf hb ?_
  have e : ({ tmps := args.toArray ++ Array.replicate (fn.ntmps - args.toArray.size) undef, defers := [] } : Act) = fr N (base args) := by
    have : args.toArray ++ Array.replicate (fn.ntmps - args.toArray.size) undef = (fr N (base args)).tmps := by
      apply Array.ext_getElem?
      intro t
      rw [fr_at, hn, Array.getElem?_append]
      unfold base
      by_cases h1 : t < args.length
      · rw [if_pos (by simpa using h1), if_pos (by omega)]; simp [h1]
      · rw [if_neg (by simpa using h1)]
        by_cases h2 : t < N
        · rw [if_pos h2]; simp [h1, Array.getElem?_replicate]; omega
        · rw [if_neg h2]; simp [Array.getElem?_replicate]; omega
    exact act_ext this rfl
  rw [e]; exact h
end control


/-- The whole is told as one list. -/
theorem Has.all {E w : World} {ss : List (List Hp)} (H : Has E w ss) : Has E w [ss.flatten] := by unfold Has at *; simpa using H
theorem Has.of_all {E w : World} {ss : List (List Hp)} (H : Has E w [ss.flatten]) : Has E w ss := by unfold Has at *; simpa using H
theorem Has.all1 {E w : World} {s : List Hp} {ss : List (List Hp)} (H : Has E w (s :: ss)) : Has E w [s, ss.flatten] := by unfold Has at *; simpa using H
theorem Has.of_all1 {E w : World} {s : List Hp} {ss : List (List Hp)} (H : Has E w [s, ss.flatten]) : Has E w (s :: ss) := by unfold Has at *; simpa using H
theorem Has.all2 {E w : World} {s t : List Hp} {ss : List (List Hp)} (H : Has E w (s :: t :: ss)) : Has E w [s, t, ss.flatten] := by unfold Has at *; simpa using H
theorem Has.of_all2 {E w : World} {s t : List Hp} {ss : List (List Hp)} (H : Has E w [s, t, ss.flatten]) : Has E w (s :: t :: ss) := by unfold Has at *; simpa using H

theorem w64 {x : Int} (h0 : -9223372036854775808 ≤ x) (h1 : x ≤ 9223372036854775807) : IntKind.wrap .i64 x = x := by rw [IntKind.wrap_i64]; omega
theorem w_u8 (b : UInt8) : IntKind.wrap .i64 (b.toNat : Int) = b.toNat := w64 (by omega) (by have := b.toNat_lt; omega)
def iV (x : Int) : Value := .int .i64 x
def bV (b : UInt8) : Value := .int .u8 b.toNat
abbrev Ints (L : List Hp) (v : Value) (l : List Int) : Prop := Sl L 1 v l.length (l.map iV)
theorem Sl.le {L : List Hp} {sz n : Nat} {v : Value} {cs : List Value} (H : Sl L sz v n cs) : n ≤ 9223372036854775807 := by
  obtain ⟨p, cap, e, a, b, c⟩ := H; omega
theorem get_some {α : Type} {l : List α} {k : Nat} (h : k < l.length) : ∃ x, l[k]? = some x := ⟨_, List.getElem?_eq_getElem h⟩
theorem take_succ_of {α : Type} {l : List α} {k : Nat} {x : α} (h : l[k]? = some x) : l.take (k + 1) = l.take k ++ [x] := by
  rw [List.take_add_one, h]; rfl

def Callable (P : Program) (f : FuncId) : Prop := ∃ fn, P.funcs[f]? = some fn ∧ fn.body.isNone = false ∧ (fn.name == "runtime.NumGoroutine") = false

section ops
variable {P : Program} {ρ : Operand → Value} {E w : World} {ss : List (List Hp)} {K : Value → World → Prop} {dst : Option Tmp} {T : TypeId} {pos : String} {after : Array Edge} {g : Option (Nat × Bool)}
theorem o_callf {c : Operand} {f : FuncId} {first captured : Array Value} {args : Array Operand} {ts : Array TypeId} {vs : Array Value} {R : Ending → World → Prop} (hf : Callable P f)
    (hv : ρ c = .func (.func f) first captured) (hargs : first ++ args.map ρ ++ captured = vs) (hc : Calls P f vs w R)
    (hK : ∀ e w', R e w' → ∃ v, e = .returned v ∧ K v w') : OK P ⟨dst, .call ⟨.value c, args, ts⟩, T, pos, after, g⟩ ρ w K := by
  obtain ⟨fn, h1, h2, h3⟩ := hf
  exact o_call h1 h2 h3 hv hargs hc hK
/-- an element's place in a row of one cell each -/
theorem o_index1 {α : Type} {f : α → Value} {l : List α} {a : α} {x y : Operand} {t e : TypeId} {L : List Hp} {by_ : Nat} {v z : Value} {k : IntKind} {i : Int} (ht : P.underlying t = some (.slice e)) (hi : TI P e z 1 by_)
    (hx : ρ x = v) (hs : Sl L 1 v l.length (l.map f)) (hy : ρ y = .int k i) (h0 : 0 ≤ i) (ha : l[i.toNat]? = some a) (hK : ∀ b off, CellsAt L b off [f a] → K (.pointer (some ⟨b, off, none⟩)) w) :
    OK P ⟨dst, .indexAddr t x y, T, pos, after, g⟩ ρ w K := by
  have hlt : i.toNat < l.length := (List.getElem?_eq_some_iff.1 ha).1
  refine o_indexAddr ht hi hx hs hy h0 (by omega) fun b off hc => hK b off ?_
  rw [drop_take_map f l _ hlt] at hc
  have := (List.getElem?_eq_some_iff.1 ha).2
  rwa [this] at hc
end ops
theorem t_norm {K : Act → World → Prop} {Q : Exit → Act → World → Prop} {a : Act} {w : World} (h : K a w) : Exit.then K Q .normal a w := h
theorem t_exit {K : Act → World → Prop} {Q : Exit → Act → World → Prop} {a : Act} {w : World} {id : Nat} (h : Q (.exit id) a w) : Exit.then K Q (.exit id) a w := h
theorem t_ret {K : Act → World → Prop} {Q : Exit → Act → World → Prop} {a : Act} {w : World} (h : Q .ret a w) : Exit.then K Q .ret a w := h
theorem b_norm {id : Nat} {Q : Exit → Act → World → Prop} {a : Act} {w : World} (h : Q .normal a w) : Exit.inBlock id Q .normal a w := h
theorem b_ret {id : Nat} {Q : Exit → Act → World → Prop} {a : Act} {w : World} (h : Q .ret a w) : Exit.inBlock id Q .ret a w := h
end Go.Q
