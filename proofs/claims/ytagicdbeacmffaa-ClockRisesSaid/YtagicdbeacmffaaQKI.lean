/-
  Maps from integers to integers.
-/
import Derived.Test.YtagicdbeacmffaaQK
set_option linter.unusedVariables false
set_option linter.unusedSimpArgs false
namespace Go.Q
def getI : List (Int × Int) → Int → Int
  | [], _ => 0
  | (a, v) :: t, k => if k = a then v else getI t k
def putI : List (Int × Int) → Int → Int → List (Int × Int)
  | [], k, v => [(k, v)]
  | (a, u) :: t, k, v => if k = a then (k, v) :: t else (a, u) :: putI t k v
def vals (l : List (Int × Int)) : List (Int × Value) := l.map fun p => (p.1, iV p.2)
theorem getM_vals (k : Int) : ∀ l, (getM (vals l) k).getD (iV 0) = iV (getI l k)
  | [] => rfl
  | (a, v) :: t => by
    show (getM ((a, iV v) :: vals t) k).getD (iV 0) = iV (if k = a then v else getI t k)
    rw [getM_cons]
    split
    · rfl
    · exact getM_vals k t
theorem putM_vals (k v : Int) : ∀ l, putM (vals l) k (iV v) = vals (putI l k v)
  | [] => rfl
  | (a, u) :: t => by
    show putM ((a, iV u) :: vals t) k (iV v) = vals (if k = a then (k, v) :: t else (a, u) :: putI t k v)
    rw [putM]
    split
    · rfl
    · rw [putM_vals k v t]; rfl
theorem getI_put (k v k' : Int) : ∀ l, getI (putI l k v) k' = if k' = k then v else getI l k'
  | [] => rfl
  | (a, u) :: t => by
    rw [putI]
    split
    · rename_i h; subst h; show (if k' = k then v else getI t k') = if k' = k then v else (if k' = k then u else getI t k'); split <;> rfl
    · rename_i h
      show (if k' = a then u else getI (putI t k v) k') = if k' = k then v else (if k' = a then u else getI t k')
      rw [getI_put k v k' t]
      split
      · rename_i g; rw [if_neg (fun e => h (e.symm.trans g))]
      · rfl
def MapII (es : Array MapEntry) (l : List (Int × Int)) : Prop := es.toList.map (fun e => (e.key, e.val)) = ents (vals l)
theorem MapII.nil : MapII #[] [] := rfl
section ops
variable {P : Program} {ρ : Operand → Value} {E w : World} {ss : List (List Hp)} {K : Value → World → Prop} {dst : Option Tmp} {T : TypeId} {pos : String} {after : Array Edge} {g : Option (Nat × Bool)}
theorem o_lookupI {x y : Operand} {t kt et : TypeId} {b : Nat} {es : Array MapEntry} {c : Nat} {l : List (Int × Int)} {sz by_ : Nat} {k : Int} {L : List Hp} (ht : P.underlying t = some (.map kt et)) (hk : P.underlying kt = some (.int .i64)) (hz : TI P et (iV 0) sz by_)
    (hx : ρ x = .map (some b)) (hy : ρ y = .int .i64 k) (H : Has E w ss) (hL : L ⊆ ss.flatten) (hb : L = [Hp.one b (.map es c)]) (he : MapII es l) (hK : K (.int .i64 (getI l k)) w) :
    OK P ⟨dst, .lookup t x y false, T, pos, after, g⟩ ρ w K :=
  o_lookup ht hk hz hx hy H hL ⟨Hp.one b (.map es c), by rw [hb]; exact List.mem_singleton.2 rfl, Hp.one_at _ _⟩ he (by rw [getM_vals]; exact hK)
theorem o_mapUpdateI {x y u : Operand} {t kt et : TypeId} {b : Nat} {es : Array MapEntry} {c : Nat} {l : List (Int × Int)} {v k : Int} (ht : P.underlying t = some (.map kt et)) (hk : P.underlying kt = some (.int .i64))
    (hx : ρ x = .map (some b)) (hy : ρ y = .int .i64 k) (hu : ρ u = .int .i64 v) (H : Has E w ([Hp.one b (.map es c)] :: ss)) (he : MapII es l)
    (hK : ∀ es' c' w', MapII es' (putI l k v) → Has E w' ([Hp.one b (.map es' c')] :: ss) → K undef w') : OK P ⟨dst, .mapUpdate t x y u, T, pos, after, g⟩ ρ w K :=
  o_mapUpdate (v := iV v) ht hk hx hy hu H he fun es' c' w' h1 h2 => hK es' c' w' (by rw [putM_vals] at h1; exact h1) h2
end ops
end Go.Q
