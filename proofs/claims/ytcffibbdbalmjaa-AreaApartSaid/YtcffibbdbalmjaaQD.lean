/-
  Rows of the call's own: append, make, a store; parts of rows and texts; bytes as a text.
-/
import Derived.Test.YtcffibbdbalmjaaQC
import Derived.Maps.AppendAt
set_option linter.unusedVariables false
set_option linter.unusedSimpArgs false
namespace Go.Q

/-- A row that lies alone in its block, from the block's beginning on. -/
def Own (e : TypeId) (sz : Nat) (v : Value) (n : Nat) (cs : List Value) (hs : List Hp) : Prop :=
  cs.length = n * sz ∧ ((v = .slice none 0 0 ∧ n = 0 ∧ hs = []) ∨
    ∃ b cap cur, v = .slice (some ⟨b, 0, none⟩) n cap ∧ hs = [Hp.one b (.cells cur e (0, 0))] ∧ n ≤ cap ∧ cap ≤ maxLen ∧ cur.size = cap * sz ∧ cur.toList.take (n * sz) = cs)

theorem Own.nil (e : TypeId) (sz : Nat) : Own e sz (.slice none 0 0) 0 [] [] := ⟨by simp, .inl ⟨rfl, rfl, rfl⟩⟩
theorem Own.lit {e : TypeId} {sz n b : Nat} {cur : Array Value} (h : cur.size = n * sz) (hm : n ≤ maxLen) :
    Own e sz (.slice (some ⟨b, 0, none⟩) n n) n cur.toList [Hp.one b (.cells cur e (0, 0))] :=
  ⟨by simpa using h, .inr ⟨b, n, cur, rfl, rfl, Nat.le_refl _, hm, h, by rw [List.take_of_length_le (by simp [h])]⟩⟩
theorem Own.sl {e : TypeId} {sz n : Nat} {v : Value} {cs : List Value} {hs : List Hp} (H : Own e sz v n cs hs) : Sl hs sz v n cs := by
  obtain ⟨hl, ⟨rfl, rfl, rfl⟩ | ⟨b, cap, cur, rfl, rfl, hnc, hcm, hcs, htake⟩⟩ := H
  · exact ⟨none, 0, rfl, Nat.le_refl _, by omega, hl, fun h => by omega⟩
  · refine ⟨_, cap, rfl, hnc, by simpa [maxLen] using hcm, hl, fun _ => ⟨b, 0, rfl, ?_⟩⟩
    refine CellsAt.one ?_
    rw [List.drop_zero, hl]; exact htake
theorem Own.row {e : TypeId} {sz n : Nat} {v : Value} {cs : List Value} {hs : List Hp} (H : Own e sz v n cs hs) {E w : World} {ss : List (List Hp)} (hH : Has E w (hs :: ss)) : w.ownsRow 0 e sz v n cs := by
  obtain ⟨hl, ⟨rfl, rfl, rfl⟩ | ⟨b, cap, cur, rfl, rfl, hnc, hcm, hcs, htake⟩⟩ := H
  · exact ⟨hl, .inl ⟨rfl, rfl⟩⟩
  · exact ⟨hl, .inr ⟨b, cap, cur, rfl, Nat.zero_le _, hH.at (by simp) (Hp.one_at _ _), hnc, hcm, hcs, htake⟩⟩

/-- A world that has grown by a row's own block. -/
theorem Own.turn {e : TypeId} {sz n n' : Nat} {v v' : Value} {cs cs' : List Value} {hs : List Hp} (H : Own e sz v n cs hs) {E w w' : World} {ss : List (List Hp)} (hH : Has E w (hs :: ss))
    (ho : w'.ownsRow 0 e sz v' n' cs') (hg : w.grownBy w' v.ownBlock) (hl : v'.ownBlock = v.ownBlock ∨ v'.ownBlock = some w.heap.size) :
    ∃ hs', Own e sz v' n' cs' hs' ∧ Has E w' (hs' :: ss) := by
  have hdom : ∀ b, (∀ h ∈ hs, h b = none) → v.ownBlock ≠ some b := by
    intro b hb hv
    obtain ⟨_, ⟨rfl, _⟩ | ⟨b', cap, cur, rfl, rfl, _⟩⟩ := H
    · simp [Value.ownBlock] at hv
    · simp [Value.ownBlock] at hv
      subst hv
      have := hb _ (List.mem_singleton.2 rfl)
      rw [Hp.one_at] at this; cases this
  have keep : ∀ b, b < w.heap.size → (∀ h ∈ hs, h b = none) → w'.heap[b]? = w.heap[b]? := fun b hb hn => hg.block b hb (fun e => hdom b hn e.symm)
  obtain ⟨hl', ⟨rfl, rfl⟩ | ⟨b, cap, cur, rfl, _, hb, hnc, hcm, hcs, htake⟩⟩ := ho
  · refine ⟨[], ⟨hl', .inl ⟨rfl, rfl, rfl⟩⟩, ?_⟩
    refine Has0.write (as := hs) (as' := []) (hs := ss.flatten) hH hg.os hg.tape hg.output (by simp) (fun b _ => .inl (by simp)) (by simp) keep
  · refine ⟨[Hp.one b (.cells cur e (0, 0))], ⟨hl', .inr ⟨b, cap, cur, rfl, rfl, hnc, hcm, hcs, htake⟩⟩, ?_⟩
    refine Has0.write (as := hs) (as' := [Hp.one b (.cells cur e (0, 0))]) (hs := ss.flatten) hH hg.os hg.tape hg.output (by simp) (fun k hk => ?_) ?_ keep
    · by_cases hkb : k = b
      · subst hkb
        rcases hl with hl | hl
        · exact absurd hl.symm (hdom k hk)
        · simp [Value.ownBlock] at hl; exact .inr (by omega)
      · refine .inl fun h hh => ?_
        rw [List.mem_singleton.1 hh]; unfold Hp.one; rw [if_neg hkb]
    · intro h hh k o hk
      rw [List.mem_singleton.1 hh] at hk
      obtain ⟨rfl, rfl⟩ := Hp.one_some hk
      exact hb

section ops
variable {P : Program} {ρ : Operand → Value} {E w : World} {ss : List (List Hp)} {K : Value → World → Prop} {dst : Option Tmp} {T : TypeId} {pos : String} {after : Array Edge} {g : Option (Nat × Bool)}

theorem o_append {x y : Operand} {t e : TypeId} {z v u : Value} {sz by_ n m : Nat} {cs ds : List Value} {hs L : List Hp} (ht : P.underlying t = some (.slice e)) (hi : TI P e z sz by_)
    (hz : z.cells.size = sz) (hsz : 0 < sz) (hx : ρ x = v) (ho : Own e sz v n cs hs) (hy : ρ y = u) (hu : Sl L sz u m ds) (H : Has E w (hs :: ss)) (hL : L ⊆ ss.flatten)
    (h1 : ∀ u ∈ ds, u.oneCell' = true) (hb : (n + m) * by_ ≤ 140737488355328) (h63 : n + m ≤ 9223372036854775807)
    (hK : ∀ v' hs' w', Own e sz v' (n + m) (cs ++ ds) hs' → Has E w' (hs' :: ss) → K v' w') :
    OK P ⟨dst, .call ⟨.builtin .append, #[x, y], #[t, t]⟩, T, pos, after, g⟩ ρ w K := by
  obtain ⟨i, hi, hiz, hisz, hiby⟩ := hi
  obtain ⟨p, cap, rfl, hnc, hcm, hl, hp⟩ := hu
  have hrow := ho.row H
  by_cases hm : m = 0
  · subst hm
    have hds : ds = [] := by simpa using hl
    subst hds
    refine o_call_builtin (v := v) (w' := w) ?_ (hK _ hs w (by simpa using ho) H)
    obtain ⟨hlc, ⟨rfl, rfl, rfl⟩ | ⟨b, cap', cur, rfl, rfl, hnc', _⟩⟩ := ho
    · cases p <;> simp [hx, hy, builtin, Builtin.append_, run_underlying ht, sizeOf, typeInfo, hi, Builtin.lenOf, Builtin.firstCells, loadCells, loadCellsFrom]
    · cases p <;> simp [hx, hy, builtin, Builtin.append_, run_underlying ht, sizeOf, typeInfo, hi, Builtin.lenOf, Builtin.firstCells, loadCells, loadCellsFrom, hnc', storeCells]
  · obtain ⟨b, off, rfl, hc⟩ := hp (by omega)
    obtain ⟨v', w', hr, ho', hg, _, hloc⟩ := run_append_own_at (P := P) w 0 t T e i z sz by_ ht hi hiz hisz hiby hz hsz v n cs hrow ⟨b, off, none⟩ m cap ds hl
      (fun j u hj => by rw [add_lit]; exact H.cell (fun _ hx => List.mem_append_right _ (hL hx)) hc hj) h1 (by simpa [maxLen] using h63) hb (Nat.zero_le _)
    obtain ⟨hs', hown, hH⟩ := ho.turn H ho' hg hloc
    refine o_call_builtin (v := v') (w' := w') ?_ (hK v' hs' w' hown hH)
    simp only [hx, hy, builtin, List.map_toArray, List.map_cons, List.map_nil, Sem.run_bind, hr, Result.andThen_ok, Sem.run_pure]

/-- make -/
theorem o_make {x y : Operand} {t e : TypeId} {z : Value} {sz by_ : Nat} {kl kc : IntKind} {l c : Int} (ht : P.underlying t = some (.slice e)) (hi : TI P e z sz by_)
    (hx : ρ x = .int kl l) (hy : ρ y = .int kc c) (h0 : 0 ≤ l) (hlc : l ≤ c) (hb : (by_ : Int) * c ≤ 281474976710656) (h63 : c ≤ 9223372036854775807) (H : Has E w ss)
    (hK : ∀ v' hs' w', Own e sz v' l.toNat ((madeCells z.cells (c.toNat * sz)).toList.take (l.toNat * sz)) hs' → Has E w' (hs' :: ss) → K v' w') :
    OK P ⟨dst, .makeSlice t x y, T, pos, after, g⟩ ρ w K := by
  obtain ⟨i, hi, hiz, hisz, hiby⟩ := hi
  subst hisz hiby
  have hr := run_make (P := P) w t e i z ht hi hiz kl kc l c h0 hlc hb h63
  refine OK.val (run_v (by rw [hx, hy]; exact hr)) (hK _ [Hp.one w.heap.size (.cells (madeCells z.cells (c.toNat * i.size)) e (0, 0))] _ ⟨?_, .inr ⟨w.heap.size, c.toNat, _, rfl, rfl, by omega, by simp [maxLen]; omega, size_madeCells _ _, rfl⟩⟩ (H.alloc _))
  rw [List.length_take, Array.length_toList, size_madeCells, Nat.min_eq_left]
  exact Nat.mul_le_mul_right _ (by omega)
theorem made_nil (z : Array Value) (n k : Nat) : (madeCells z n).toList.take (0 * k) = [] := by simp
theorem made_rep (v : Value) (n : Nat) : (madeCells #[v] (n * 1)).toList.take (n * 1) = List.replicate n v := by
  rw [List.take_of_length_le (by simp [size_madeCells])]
  apply List.ext_getElem
  · simp [size_madeCells]
  · intro i h1 h2
    simp [madeCells, Nat.mod_one]

/-- s[i:j] of a text -/
theorem extract_S (a : List UInt8) (i j : Nat) : Value.string ((⟨a.toArray⟩ : ByteArray).extract i j) = S ((a.take j).drop i) := by
  unfold S
  congr 1
  apply ByteArray.ext
  rw [ByteArray.data_extract]
  simp [List.drop_take]
theorem run_ssl {t : TypeId} {a : List UInt8} {k k' : IntKind} {i j : Int} (ht : P.underlying t = some .string) (h0 : 0 ≤ i) (h1 : i ≤ j) (h2 : j ≤ a.length) :
    (Instr.sliceAt t (S a) (some (.int k i)) (some (.int k' j)) none).run P w = .ok (S ((a.take j.toNat).drop i.toNat)) w := by
  have hs := bytes_size a
  have e : ((j.toNat : Nat) : Int) = j := Int.toNat_of_nonneg (by omega)
  rw [run_sliceAt_string _ _ _ _ _ _ ht, ← extract_S]
  unfold S
  simp [Instr.slice, run_underlying ht, Instr.sliceBounds, run_sliceBound, hs, h0, h1, h2, e, (show 0 ≤ j by omega)]
theorem run_ssl_l {t : TypeId} {a : List UInt8} {k : IntKind} {i : Int} (ht : P.underlying t = some .string) (h0 : 0 ≤ i) (h1 : i ≤ a.length) :
    (Instr.sliceAt t (S a) (some (.int k i)) none none).run P w = .ok (S (a.drop i.toNat)) w := by
  have hs := bytes_size a
  rw [run_sliceAt_string _ _ _ _ _ _ ht]
  have := extract_S a i.toNat a.length
  rw [List.take_of_length_le (Nat.le_refl _)] at this
  rw [← this]
  unfold S
  simp [Instr.slice, run_underlying ht, Instr.sliceBounds, run_sliceBound, hs, h0, h1]
theorem run_ssl_h {t : TypeId} {a : List UInt8} {k : IntKind} {j : Int} (ht : P.underlying t = some .string) (h0 : 0 ≤ j) (h1 : j ≤ a.length) :
    (Instr.sliceAt t (S a) none (some (.int k j)) none).run P w = .ok (S (a.take j.toNat)) w := by
  have hs := bytes_size a
  rw [run_sliceAt_string _ _ _ _ _ _ ht]
  have := extract_S a 0 j.toNat
  rw [List.drop_zero] at this
  rw [← this]
  unfold S
  simp [Instr.slice, run_underlying ht, Instr.sliceBounds, run_sliceBound, hs, h0, h1]
theorem o_ssl {x y z : Operand} {t : TypeId} {a : List UInt8} {k k' : IntKind} {i j : Int} (ht : P.underlying t = some .string) (hx : ρ x = S a) (hy : ρ y = .int k i) (hz : ρ z = .int k' j)
    (h0 : 0 ≤ i) (h1 : i ≤ j) (h2 : j ≤ a.length) (hK : K (S ((a.take j.toNat).drop i.toNat)) w) : OK P ⟨dst, .slice t x (some y) (some z) none, T, pos, after, g⟩ ρ w K :=
  OK.val (run_v (by simp only [hx, hy, hz, Option.map_some, Option.map_none]; exact run_ssl ht h0 h1 h2)) hK
theorem o_ssl_l {x y : Operand} {t : TypeId} {a : List UInt8} {k : IntKind} {i : Int} (ht : P.underlying t = some .string) (hx : ρ x = S a) (hy : ρ y = .int k i)
    (h0 : 0 ≤ i) (h1 : i ≤ a.length) (hK : K (S (a.drop i.toNat)) w) : OK P ⟨dst, .slice t x (some y) none none, T, pos, after, g⟩ ρ w K :=
  OK.val (run_v (by simp only [hx, hy, Option.map_some, Option.map_none]; exact run_ssl_l ht h0 h1)) hK
theorem o_ssl_h {x z : Operand} {t : TypeId} {a : List UInt8} {k : IntKind} {j : Int} (ht : P.underlying t = some .string) (hx : ρ x = S a) (hz : ρ z = .int k j)
    (h0 : 0 ≤ j) (h1 : j ≤ a.length) (hK : K (S (a.take j.toNat)) w) : OK P ⟨dst, .slice t x none (some z) none, T, pos, after, g⟩ ρ w K :=
  OK.val (run_v (by simp only [hx, hz, Option.map_some, Option.map_none]; exact run_ssl_h ht h0 h1)) hK

/-- parts of rows that are read -/
theorem CellsAt.drop {L : List Hp} {b off k : Nat} {cs : List Value} (H : CellsAt L b off cs) : CellsAt L b (off + k) (cs.drop k) := H.sub fun j v hv => by rwa [List.getElem?_drop] at hv
theorem CellsAt.take {L : List Hp} {b off k : Nat} {cs : List Value} (H : CellsAt L b off cs) : CellsAt L b off (cs.take k) :=
  H.sub (k := 0) fun j v hv => by
    rw [List.getElem?_take] at hv
    split at hv
    · simpa using hv
    · cases hv
theorem Sl.part {L : List Hp} {sz : Nat} {p : Option Addr} {n cap : Nat} {cs : List Value} (H : Sl L sz (.slice p n cap) n cs) (i j : Nat) (hij : i ≤ j) (hj : j ≤ n) :
    Sl L sz (sliced p i j cap sz) (j - i) (((cs.take (j * sz)).drop (i * sz))) := by
  obtain ⟨p', cap', e, hnc, hcm, hl, hp⟩ := H
  cases e
  refine ⟨_, _, rfl, by omega, by omega, ?_, fun h => ?_⟩
  · rw [List.length_drop, List.length_take, hl, Nat.min_eq_left (Nat.mul_le_mul_right _ hj), Nat.sub_mul]
  · obtain ⟨b, off, rfl, hc⟩ := hp (by omega)
    rw [if_neg (by omega)]
    refine ⟨b, off + i * sz, ?_, hc.take.drop⟩
    simp [add_lit]
theorem o_sl {x y z : Operand} {t e : TypeId} {zz : Value} {v : Value} {sz by_ n : Nat} {cs : List Value} {L : List Hp} {k k' : IntKind} {i j : Int} (ht : P.underlying t = some (.slice e)) (hi : TI P e zz sz by_)
    (hx : ρ x = v) (hs : Sl L sz v n cs) (hy : ρ y = .int k i) (hz : ρ z = .int k' j) (h0 : 0 ≤ i) (h1 : i ≤ j) (h2 : j ≤ n)
    (hK : ∀ v', Sl L sz v' (j.toNat - i.toNat) ((cs.take (j.toNat * sz)).drop (i.toNat * sz)) → K v' w) : OK P ⟨dst, .slice t x (some y) (some z) none, T, pos, after, g⟩ ρ w K := by
  obtain ⟨p, cap, rfl⟩ := hs.form
  refine OK.val (run_v ?_) (hK _ (hs.part i.toNat j.toNat (by omega) (by omega)))
  obtain ⟨_, _, e, hnc, _⟩ := hs
  cases e
  have e1 : P.elem t = e := by simp [Program.elem, ht]
  simp only [hx, hy, hz, Option.map_some, Option.map_none]
  rw [run_sliceAt_slice _ _ _ _ _ _ (by rw [e1]; exact ht), run_slice_lh _ _ _ _ _ (by rw [e1]; exact ht) _ _ _ _ h0 h1 (by omega), e1, hi.size]
  rfl
end ops
end Go.Q
