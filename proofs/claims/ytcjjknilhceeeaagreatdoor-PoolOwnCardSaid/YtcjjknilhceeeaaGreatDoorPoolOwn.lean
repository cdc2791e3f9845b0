/-
  The law PoolOwn holds: for every input that the row lets in, where the listed tables read as the program's text and the form lay them (tied by the card), its Go function returns true, and what was there before reads as before.
-/
import Derived.Test.YtcjjknilhceeeaaGreatDoorB5
import Derived.Test.YtcjjknilhceeeaaGreatDoorRows
import Derived.Test.YtcjjknilhceeeaaGreatDoorTie
import Derived.Test.YtcjjknilhceeeaaGreatDoorCards
import Derived.WalkKit
import Derived.ProofKit
import Derived.LaidMore
import Derived.OpenShut
import Derived.ShutString
import Derived.ChangeOld
import Derived.Below
import Derived.Stop.Joined
import Derived.SevenTiedAt
import Derived.Lay
import Derived.MakeChecks
namespace Go.Proofs.YtcjjknilhceeeaaGreatDoor.poolOwn
open Go.ChangeShapes Go.WideShapes Go.ChangeAt Go.RowKit
open Go.ChangeMaps (open_string shut_string)
set_option linter.unusedVariables false

theorem own : ownKnob Tryz.prog.godebug = none := by kernel_rfl
theorem laidOut : laidOutB Tryz.prog = true := by kernel_rfl

theorem of_laid {W : World} (h : laidMetH Tryz.prog Rows.poolOwnRow.laid W) : Go.Q.CellsAt [Go.Q.Hp.of W] 1 0 Go.Q.nibV := by
  rw [MakeChecks.laidMetH_plain _ _ _ (by kernel_rfl)] at h
  obtain ⟨ps, ⟨_, _, _, _, _, _, _, _, _, _, ⟨g0, t0, cs0, f0, p0, q0, hg0, ht0, hv0, hd0, _⟩, _⟩, _, _⟩ := h
  have gn : Tryz.prog.globalNamed "quadriga/sum.nibbles" = some 1 := by kernel_rfl
  have tn : (Tryz.prog.globals[1]?).map (·.type) = some 213 := by kernel_rfl
  obtain rfl := Option.some.inj (gn.symm.trans hg0)
  obtain rfl := Option.some.inj (tn.symm.trans ht0)
  have hc := Go.Q.arr_cells (l := Go.Q.nibL) Tryz.underlying213 Tryz.underlying160 (by kernel_rfl) rfl hd0
  obtain ⟨b, off, e, hcell⟩ := Go.Q.cells_row (w := W) (x := ⟨1, 0, none⟩) (vs := Go.Q.nibV) (by decide) (fun i v hv => by
    obtain ⟨z, hz, rfl⟩ := Go.Q.nibV_L hv
    rw [Go.Q.add_lit, Nat.zero_add, World.var?_cell hg0 hv0 i]
    simpa using hc i z hz)
  cases e
  exact hcell

set_option maxRecDepth 100000 in
theorem lifted (os : Os) (started : os.Started) (H : Type) (enc : TypeId × Value → H) :
    ReturnsInHanded {} Tryz.checked os 7 .any (fun w args => (Rows.poolOwnSpec.pre enc Tryz.prog Tryz.f7 [] false w args ∧ laidMetH Tryz.prog Rows.poolOwnRow.laid w) ∧ sizedMet enc Tryz.prog Tryz.f7 (OpenSpec.ofChange Rows.poolOwnSpec) false w args)
      (Rows.poolOwnSpec.post enc Tryz.prog Tryz.f7 false true false false) := by
  refine returnsInHanded_of_change_and (C := Tryz.checked) (X := fun w _ => laidMetH Tryz.prog Rows.poolOwnRow.laid w) (fun _ _ _ hh h => h.of_heap hh) own started (by kernel_rfl) Tryz.func7
    (ChangeSpec.witness_shaped (enc := enc) (C := Tryz.checked) (os := os) (X := fun w _ => laidMetH Tryz.prog Rows.poolOwnRow.laid w) false (World.laidAll Tryz.prog os Rows.poolOwnRow.laid) #[.string ⟨#[]⟩, .agg #[.bool false, .string ⟨#[]⟩]] 8 (World.laidAll_os _ _ _)
      (World.shaped_of_ZipB (by kernel_rfl) (by kernel_rfl)) (by kernel_rfl) (by kernel_rfl) (by kernel_rfl)
      (by rw [MakeChecks.laidMetH_plain _ _ _ (by kernel_rfl)]; exact laidMet_laidAll _ (by kernel_rfl) (by kernel_rfl))) ?_
  intro W base args ds gs before hval0 hW _ _ hL _
  have hval : ∀ (j : Nat) t v, Tryz.f7.params[j]? = some t → args[j]? = some v → Value.okWide Tryz.prog W .any base t v := hval0
  have hW' := hW
  obtain ⟨p, q, hA0, hV, rfl, hfz, hnd⟩ := hW
  have hA : DataW.TrodAll enc Tryz.prog W 0 (fun _ => true) true Tryz.f7.params.toList args.toList ds p := hA0
  rw [Tryz.params7] at hA hval
  obtain ⟨v0, vs0, d0, ds0, p0, q0, hargs, rfl, rfl, h0, r0⟩ := trodAll_cons hA
  obtain ⟨v1, vs1, d1, ds1, p1, q1, rfl, rfl, rfl, h1, r1⟩ := trodAll_cons r0
  obtain ⟨rfl, rfl, rfl⟩ := trodAll_nil r1
  obtain rfl : args = #[v0, v1] := by cases args; simp_all
  obtain ⟨rfl, rfl⟩ := trodVars_none hV
  have hnib := of_laid hL
  have k0 := h0
  have lt0 : ∀ x ∈ p0, x.block < W.heap.size := by obtain ⟨m, hm⟩ := k0; exact DataW.trod_lt m _ _ _ hm
  obtain ⟨n0, e0, b0⟩ := Go.Q.rd_string Tryz.underlying9 (Go.Q.rd_of h0)
  obtain rfl := Go.Q.val_one (by rw [Tryz.underlying9]; trivial) (hval 0 9 v0 rfl rfl) e0
  have k1 := h1
  have lt1 : ∀ x ∈ p1, x.block < W.heap.size := by obtain ⟨m, hm⟩ := k1; exact DataW.trod_lt m _ _ _ hm
  obtain ⟨c1, rfl, _⟩ := okWide_struct Tryz.underlying62 (hval 1 62 v1 rfl rfl)
  obtain ⟨n1, e1, b1⟩ := Go.Q.rd_val (Go.Q.rd_of h1)
  obtain rfl : c1 = (Go.Q.vlC n1).toArray := by rw [← e1]; rfl
  clear hA0 hval0
  refine (Go.Q.PoolOwn_c (key := n0) (v := n1) (Go.Q.Has.start W) hnib).mono fun e W' ⟨he, hH⟩ => ?_
  have bel := Go.Q.Has.below hH
  subst he
  exact ⟨_, rfl, _, _, _, [], _, [], hW', trodAll_mk1 (shut_bool Tryz.underlying4 _), (trodAll_cons_mk (Below.trod laidOut (by kernel_rfl) (of_decide_eq_true (by kernel_rfl)) k0 bel lt0) (trodAll_cons_mk (Below.trod laidOut (by kernel_rfl) (of_decide_eq_true (by kernel_rfl)) k1 bel lt1) trodAll_mk0)), rfl, bel.frame _, fun h => by cases h⟩

theorem over : Rows.PoolOwnSaid :=
  OpenClaim.holds_of_wide 7 Tryz.f7 rfl rfl rfl rfl rfl rfl rfl ⟨rfl, rfl, rfl, rfl, rfl⟩ rfl rfl rfl rfl rfl (by kernel_rfl) Tryz.func7 (by kernel_rfl)
    (of_decide_eq_true (by kernel_rfl)) (by unfold Func.isWrapper; first | (rw [if_pos (by decide +kernel)]; kernel_rfl) | (rw [if_neg (by decide +kernel)]; exact ⟨rfl, rfl⟩))
    (fun os started H enc _ => lifted os started H enc)

theorem proved : Rows.PoolOwnCardSaid :=
  Claim7.holds_tied_plain_at .later [] [.data, .data, .pinned] true (true, "02754bfd267f5af45ea435624e8b60bc73c820199fd780f2a486777f42d783e4") false
    over (fun _ h => by cases h) (by kernel_rfl) (fun _ h => by cases h) poolOwn_row_tie rfl ⟨rfl, rfl⟩ (by kernel_rfl) rfl
    (fun f fn hf hfn => by
      obtain rfl : f = 7 := Option.some.inj ((show Tryz.prog.funcNamed Rows.poolOwnRow.func = some 7 by kernel_rfl).symm.trans hf) |>.symm
      obtain rfl : fn = Tryz.f7 := (Option.some.inj (Tryz.func7.symm.trans hfn)).symm
      refine ⟨by kernel_rfl, fun j t ht => ?_⟩
      rw [Tryz.params7] at ht
      rcases j with _ | _ | j
      · obtain rfl : t = 9 := by simpa using ht.symm
        exact (show Tryz.prog.wantsStandIn 9 = false by kernel_rfl)
      · obtain rfl : t = 62 := by simpa using ht.symm
        exact (show Tryz.prog.wantsStandIn 62 = false by kernel_rfl)
      · simp at ht)
    (by kernel_rfl)
#print axioms proved
end Go.Proofs.YtcjjknilhceeeaaGreatDoor.poolOwn
