/-
  An element of a row of one's own: its place, and writing it.
-/
import Derived.Test.YtcffibbdbalmjaaQI
set_option linter.unusedVariables false
set_option linter.unusedSimpArgs false
namespace Go.Q
def OwnAt (e : TypeId) (v : Value) (n : Nat) (cs : List Value) (hs : List Hp) (b : Nat) : Prop :=
  ∃ cap cur, v = .slice (some ⟨b, 0, none⟩) n cap ∧ hs = [Hp.one b (.cells cur e (0, 0))] ∧ n ≤ cap ∧ cap ≤ maxLen ∧ cur.size = cap * 1 ∧ cur.toList.take (n * 1) = cs ∧ cs.length = n * 1
section ops
variable {P : Program} {ρ : Operand → Value} {E w : World} {ss : List (List Hp)} {K : Value → World → Prop} {dst : Option Tmp} {T : TypeId} {pos : String} {after : Array Edge} {g : Option (Nat × Bool)}
theorem o_ownAddr {x y : Operand} {t e : TypeId} {hs : List Hp} {n by_ : Nat} {v z : Value} {cs : List Value} {k : IntKind} {i : Int} (ht : P.underlying t = some (.slice e)) (hi : TI P e z 1 by_)
    (hx : ρ x = v) (ho : Own e 1 v n cs hs) (hy : ρ y = .int k i) (h0 : 0 ≤ i) (h1 : i < n) (hK : ∀ b, OwnAt e v n cs hs b → K (.pointer (some ⟨b, i.toNat, none⟩)) w) :
    OK P ⟨dst, .indexAddr t x y, T, pos, after, g⟩ ρ w K := by
  obtain ⟨hl, ⟨rfl, h2, rfl⟩ | ⟨b, cap, cur, rfl, rfl, hnc, hcm, hsz, hc⟩⟩ := ho
  · omega
  · refine OK.val (run_v (v := .pointer (some ⟨b, i.toNat, none⟩)) ?_) (hK b ⟨cap, cur, rfl, rfl, hnc, hcm, hsz, hc, hl⟩)
    rw [hx, hy]
    simp [Instr.indexAt, asIntOf, run_underlying ht, h0, h1, hi.size, add_lit]
theorem o_ownStore {α : Type} {f : α → Value} {l : List α} {a : α} {x y : Operand} {t e : TypeId} {hs : List Hp} {n i b by_ : Nat} {v z : Value} (hi : TI P t z 1 by_) (hx : ρ x = .pointer (some ⟨b, i, none⟩)) (hy : ρ y = f a)
    (hv : (f a).oneCell' = true) (ho : OwnAt e v n (l.map f) hs b) (hlt : i < n) (H : Has E w (hs :: ss)) (hK : ∀ hs' w', Own e 1 v (l.set i a).length ((l.set i a).map f) hs' → Has E w' (hs' :: ss) → K undef w') :
    OK P ⟨dst, .store t x y, T, pos, after, g⟩ ρ w K := by
  obtain ⟨cap, cur, rfl, rfl, hnc, hcm, hsz, hc, hl⟩ := ho
  have hln : (l.set i a).length = n := by simpa using hl
  refine o_store1 (c' := cur.setIfInBounds i (f a)) hi hx hy hv (by omega) rfl H fun w' H' => hK _ w' ?_ H'
  rw [hln]
  refine ⟨by simpa using hl, .inr ⟨b, cap, _, rfl, rfl, hnc, hcm, by simpa using hsz, ?_⟩⟩
  rw [Array.toList_setIfInBounds, List.take_set, hc, List.map_set]
end ops
end Go.Q
