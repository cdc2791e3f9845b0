/-
  The bytes of a text, as a row of one's own: reading and writing its bytes.
-/
import Derived.Test.YtagicdbeacmffaaDoorQX
import Derived.Laws.IdiomStrings
set_option linter.unusedVariables false
set_option linter.unusedSimpArgs false
namespace Go.Q
/-- A row of one's own whose block bears a mark behind its last cell. -/
def OwnZ (e : TypeId) (v : Value) (n : Nat) (cs : List Value) (hs : List Hp) : Prop :=
  cs.length = n ∧ ∃ b cap cur, v = .slice (some ⟨b, 0, none⟩) n cap ∧ hs = [Hp.one b (.cells cur e (cur.size, cur.size + 1))] ∧ n ≤ cap ∧ cap ≤ 9223372036854775807 ∧ cur.size = cap ∧ cur.toList.take n = cs
def OwnAtZ (e : TypeId) (v : Value) (n : Nat) (cs : List Value) (hs : List Hp) (b : Nat) : Prop :=
  cs.length = n ∧ ∃ cap cur, v = .slice (some ⟨b, 0, none⟩) n cap ∧ hs = [Hp.one b (.cells cur e (cur.size, cur.size + 1))] ∧ n ≤ cap ∧ cap ≤ 9223372036854775807 ∧ cur.size = cap ∧ cur.toList.take n = cs
theorem OwnZ.sl {e : TypeId} {v : Value} {n : Nat} {cs : List Value} {hs : List Hp} (H : OwnZ e v n cs hs) : Sl hs 1 v n cs := by
  obtain ⟨hl, b, cap, cur, rfl, rfl, h1, h2, h3, h4⟩ := H
  refine ⟨_, _, rfl, h1, h2, by omega, fun _ => ⟨b, 0, rfl, CellsAt.one ?_⟩⟩
  rw [List.drop_zero, hl]; exact h4
theorem OwnZ.one {e : TypeId} {v : Value} {n : Nat} {cs : List Value} {hs : List Hp} (h : OwnZ e v n cs hs) : v.oneCell' = true := h.sl.one
/-- one cell of the front block, written; whatever mark the block bears -/
theorem Has.set1f {E w : World} {ss : List (List Hp)} {b off : Nat} {c : Array Value} {U : TypeId} {f : Nat × Nat} {v : Value} (hlt : off < c.size) (H : Has E w ([Hp.one b (.cells c U f)] :: ss)) :
    Has E (w.setCell ⟨b, off, none⟩ v) ([Hp.one b (.cells (c.setIfInBounds off v) U f)] :: ss) := by
  have hwb : w.heap[b]? = some (.cells c U f) := H.at (h := Hp.one b (.cells c U f)) (by simp) (Hp.one_at _ _)
  refine Has0.write (as := [Hp.one b (.cells c U f)]) (as' := [Hp.one b (.cells (c.setIfInBounds off v) U f)]) (hs := ss.flatten) H rfl rfl rfl (by simp) ?_ ?_ ?_
  · intro k hk
    have hk := hk _ (List.mem_singleton.2 rfl)
    refine .inl fun h hh => ?_
    rw [List.mem_singleton.1 hh]
    unfold Hp.one at hk ⊢
    split at hk
    · cases hk
    · rw [if_neg (by assumption)]
  · intro h hh k o hk
    rw [List.mem_singleton.1 hh] at hk
    obtain ⟨rfl, rfl⟩ := Hp.one_some hk
    simp only [World.setCell, Array.getElem?_modify]
    simp [hwb]
  · intro k _ hk
    have hk := hk _ (List.mem_singleton.2 rfl)
    have : k ≠ b := by rintro rfl; rw [Hp.one_at] at hk; cases hk
    simp only [World.setCell, Array.getElem?_modify]
    rw [if_neg (by omega)]
theorem xor8 (c d : UInt8) : IntKind.wrap .u8 ((BitVec.ofInt 8 (c.toNat : Int) ^^^ BitVec.ofInt 8 (d.toNat : Int)).toNat : Int) = ((c ^^^ d).toNat : Int) := by
  have e : ∀ x : UInt8, BitVec.ofInt 8 (x.toNat : Int) = x.toBitVec := fun x => by rw [BitVec.ofInt_natCast]; simp
  rw [e, e, UInt8.toNat_xor, BitVec.toNat_xor]
  simp only [IntKind.wrap, IntKind.bits, IntKind.signed]
  simp
  have h1 := c.toNat_lt; have h2 := d.toNat_lt
  have := Nat.xor_lt_two_pow (n := 8) h1 h2
  omega
theorem shl8 (n : Nat) (h : n < 8) : IntKind.wrap .u8 (1 * 2 ^ (min ((n : Int)).toNat (IntKind.bits .u8))) = ((UInt8.ofNat (2 ^ n)).toNat : Int) := by
  have : ∀ k : Nat, k < 8 → IntKind.wrap .u8 (1 * 2 ^ (min ((k : Nat) : Int).toNat (IntKind.bits .u8))) = ((UInt8.ofNat (2 ^ k)).toNat : Int) := by decide
  exact this n h
section ops
variable {P : Program} {ρ : Operand → Value} {E w : World} {ss : List (List Hp)} {K : Value → World → Prop} {dst : Option Tmp} {T : TypeId} {pos : String} {after : Array Edge} {g : Option (Nat × Bool)}
theorem o_strb {s e t : TypeId} {x : Operand} {l : List UInt8} (hs : P.underlying s = some .string) (hd : P.underlying t = some (.slice e)) (he : P.underlying e = some (.int .u8)) (hx : ρ x = S l) (hl : l.length ≤ 9223372036854775807) (H : Has E w ss)
    (hK : ∀ v' hs' w', OwnZ e v' l.length (l.map bV) hs' → Has E w' (hs' :: ss) → K v' w') : OK P ⟨dst, .convert s t x, T, pos, after, g⟩ ρ w K := by
  have hr := run_bytes_of_string (P := P) w s t e ⟨l.toArray⟩ hs hd he
  have g1 := grownCap_ge w (ByteArray.size ⟨l.toArray⟩) 0 e
  have g2 := grownCap_le_maxLen w (ByteArray.size ⟨l.toArray⟩) 0 e (by rw [bytes_size, show maxLen = 9223372036854775807 from rfl]; exact hl)
  generalize grownCap w (ByteArray.size ⟨l.toArray⟩) 0 e = cap at hr g1 g2
  rw [bytes_size] at hr g1
  rw [show maxLen = 9223372036854775807 from rfl] at g2
  have c1 : (bytesRow ⟨l.toArray⟩ cap).size = cap := by simp [bytesRow, bytes_size]; omega
  have c2 : (bytesRow ⟨l.toArray⟩ cap).toList.take l.length = l.map bV := by simp [bytesRow]; intro a _; rfl
  generalize bytesRow ⟨l.toArray⟩ cap = C at hr c1 c2
  exact OK.val (run_v (by rw [hx]; exact hr)) (hK _ [Hp.one w.heap.size (.cells C e (C.size, C.size + 1))] _ ⟨by simp, w.heap.size, cap, C, rfl, rfl, g1, g2, c1, c2⟩ ((H.drew (w.drawn + 1)).alloc _))
theorem o_ownAddrZ {x y : Operand} {t e : TypeId} {hs : List Hp} {n by_ : Nat} {v z : Value} {cs : List Value} {k : IntKind} {i : Int} (ht : P.underlying t = some (.slice e)) (hi : TI P e z 1 by_)
    (hx : ρ x = v) (ho : OwnZ e v n cs hs) (hy : ρ y = .int k i) (h0 : 0 ≤ i) (h1 : i < n) (hK : ∀ b, OwnAtZ e v n cs hs b → K (.pointer (some ⟨b, i.toNat, none⟩)) w) :
    OK P ⟨dst, .indexAddr t x y, T, pos, after, g⟩ ρ w K := by
  obtain ⟨hl, b, cap, cur, rfl, rfl, h2, h3, h4, h5⟩ := ho
  refine OK.val (run_v (v := .pointer (some ⟨b, i.toNat, none⟩)) ?_) (hK b ⟨hl, cap, cur, rfl, rfl, h2, h3, h4, h5⟩)
  rw [hx, hy]
  simp [Instr.indexAt, asIntOf, run_underlying ht, h0, h1, hi.size, add_lit]
theorem o_ownStoreZ {α : Type} {f : α → Value} {l : List α} {a : α} {x y : Operand} {t e : TypeId} {hs : List Hp} {n i b by_ : Nat} {v z : Value} (hi : TI P t z 1 by_) (hx : ρ x = .pointer (some ⟨b, i, none⟩)) (hy : ρ y = f a)
    (hv : (f a).oneCell' = true) (ho : OwnAtZ e v n (l.map f) hs b) (hlt : i < n) (H : Has E w (hs :: ss)) (hK : ∀ hs' w', OwnZ e v (l.set i a).length ((l.set i a).map f) hs' → Has E w' (hs' :: ss) → K undef w') :
    OK P ⟨dst, .store t x y, T, pos, after, g⟩ ρ w K := by
  obtain ⟨hl, cap, cur, rfl, rfl, h2, h3, h4, h5⟩ := ho
  have hln : (l.set i a).length = n := by simpa using hl
  have hwb : w.heap[b]? = some (.cells cur e (cur.size, cur.size + 1)) := H.at (h := Hp.one b (.cells cur e (cur.size, cur.size + 1))) (by simp) (Hp.one_at _ _)
  have hlt2 : i < cur.size := by omega
  have hcell : w.cell? ⟨b, i, none⟩ = some cur[i] := by rw [cell_of_row w b i cur e _ hwb]; simp [hlt2]
  have hfz : w.frozen? ⟨b, i, none⟩ = false := by simp [World.frozen?, hwb]; omega
  have hcl : (f a).cells = #[f a] := by cases h : f a <;> first | rfl | (rw [h] at hv; simp [Value.oneCell'] at hv)
  refine OK.skip (w' := w.setCell ⟨b, i, none⟩ (f a)) (run_u ?_) (hK [Hp.one b (.cells (cur.setIfInBounds i (f a)) e (cur.size, cur.size + 1))] _ ?_ (H.set1f hlt2))
  · rw [hx, hy]
    simp only [Instr.storeAt, Instr.sureAddr, Sem.run_bind, Sem.run_pure, Result.andThen_ok, storeVar, hi.size, hcl]
    simp [storeCells, add_lit, run_store P w ⟨b, i, none⟩ (f a) .plain hv, hcell, hfz]
  · rw [hln]
    refine ⟨by simpa using hl, b, cap, _, rfl, by rw [Array.size_setIfInBounds], h2, h3, by simpa using h4, ?_⟩
    rw [Array.toList_setIfInBounds, List.take_set, h5, List.map_set]
end ops
end Go.Q
