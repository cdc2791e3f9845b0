/-
  The law FrameMakes holds: for every input that the row lets in, where the listed table reads as the program's text lays it (tied to that text by the card), its Go function returns true, and what was there before reads as before.
-/
import Derived.Test.YtagicdbeacmffaaDoorQVRd
import Derived.Test.YtagicdbeacmffaaDoorQVL8
import Derived.Test.YtagicdbeacmffaaDoorRows
import Derived.Test.YtagicdbeacmffaaDoorTie
import Derived.Test.YtagicdbeacmffaaDoorCards
import Derived.WalkKit
import Derived.ProofKit
import Derived.LaidMore
import Derived.OpenShut
import Derived.ShutString
import Derived.ChangeOld
import Derived.Below
import Derived.Stop.Joined
import Derived.SevenTiedAt
namespace Go.Proofs.YtagicdbeacmffaaDoor.frameMakes
open Go.ChangeShapes Go.WideShapes Go.ChangeAt Go.RowKit
open Go.ChangeMaps (open_string shut_string)
set_option linter.unusedVariables false

theorem own : ownKnob Tryd.prog.godebug = none := by kernel_rfl
theorem laidOut : laidOutB Tryd.prog = true := by kernel_rfl

theorem of_laid {W : World} (h : laidMetH Tryd.prog Rows.frameMakesRow.laid W) : Go.Q.CellsAt [Go.Q.Hp.of W] 0 0 Go.Q.nibV := by
  rw [MakeChecks.laidMetH_plain _ _ _ (by kernel_rfl)] at h
  obtain ⟨ps, ⟨g0, t0, cs0, f0, p0, q0, hg0, ht0, hv0, hd0, _⟩, _, _⟩ := h
  have gn : Tryd.prog.globalNamed "quadriga/sum.nibbles" = some 0 := by kernel_rfl
  have tn : (Tryd.prog.globals[0]?).map (·.type) = some 67 := by kernel_rfl
  obtain rfl := Option.some.inj (gn.symm.trans hg0)
  obtain rfl := Option.some.inj (tn.symm.trans ht0)
  have hc := Go.Q.arr_cells (l := Go.Q.nibL) Tryd.underlying67 Tryd.underlying26 (by kernel_rfl) rfl hd0
  obtain ⟨b, off, e, hcell⟩ := Go.Q.cells_row (w := W) (x := ⟨0, 0, none⟩) (vs := Go.Q.nibV) (by decide) (fun i v hv => by
    obtain ⟨z, hz, rfl⟩ := Go.Q.nibV_L hv
    rw [Go.Q.add_lit, Nat.zero_add, World.var?_cell hg0 hv0 i]
    simpa using hc i z hz)
  cases e
  exact hcell

theorem door_met (os : Os) (args : Array Value) : laidMetH Tryd.prog Rows.frameMakesRow.laid ((World.doorLaid Tryd.prog 400 os).forCall (fun _ _ => 0) ⟨#[], args, []⟩).memory :=
  laidMetH_of_parts3 (fuel := 8) (laidMet_of_run' 8 (by kernel_rfl) (by kernel_rfl)) (by kernel_rfl) (by kernel_rfl)

set_option maxRecDepth 100000 in
theorem lifted (os : Os) (started : os.Started) (H : Type) (enc : TypeId × Value → H) :
    ReturnsInHanded {} Tryd.checked os 11 .any (fun w args => (Rows.frameMakesSpec.pre enc Tryd.prog Tryd.f11 [] false w args ∧ laidMetH Tryd.prog Rows.frameMakesRow.laid w) ∧ sizedMet enc Tryd.prog Tryd.f11 (OpenSpec.ofChange Rows.frameMakesSpec) false w args)
      (Rows.frameMakesSpec.post enc Tryd.prog Tryd.f11 false true false false) := by
  refine returnsInHanded_of_change_and (C := Tryd.checked) (X := fun w _ => laidMetH Tryd.prog Rows.frameMakesRow.laid w) (fun _ _ _ hh h => h.of_heap hh) own started (by kernel_rfl) Tryd.func11
    (ChangeSpec.witness_shaped (enc := enc) (C := Tryd.checked) (os := os) (X := fun w _ => laidMetH Tryd.prog Rows.frameMakesRow.laid w) false (World.doorLaid Tryd.prog 400 os) #[.agg #[.int .i64 0, .int .i64 0, .int .i64 0, .string ⟨#[]⟩], .slice none 0 0] 8 rfl (World.shaped_of_RefB (by kernel_rfl) (by kernel_rfl)) (by kernel_rfl) (by kernel_rfl) (by kernel_rfl) (door_met os _)) ?_
  intro W base args ds gs before hval0 hW _ _ hL _
  have hval : ∀ (j : Nat) t v, Tryd.f11.params[j]? = some t → args[j]? = some v → Value.okWide Tryd.prog W .any base t v := hval0
  have hW' := hW
  obtain ⟨p, q, hA0, hV, rfl, hfz, hnd⟩ := hW
  have hA : DataW.TrodAll enc Tryd.prog W 0 (fun _ => true) true Tryd.f11.params.toList args.toList ds p := hA0
  rw [Tryd.params11] at hA hval
  obtain ⟨v0, vs0, d0, ds0, p0, q0, hargs, rfl, rfl, h0, r0⟩ := trodAll_cons hA
  obtain ⟨v1, vs1, d1, ds1, p1, q1, rfl, rfl, rfl, h1, r1⟩ := trodAll_cons r0
  obtain ⟨rfl, rfl, rfl⟩ := trodAll_nil r1
  obtain rfl : args = #[v0, v1] := by cases args; simp_all
  obtain ⟨rfl, rfl⟩ := trodVars_none hV
  have hnib := of_laid hL
  have k0 := h0
  have lt0 : ∀ x ∈ p0, x.block < W.heap.size := by obtain ⟨m, hm⟩ := k0; exact DataW.trod_lt m _ _ _ hm
  obtain ⟨c0, rfl, _⟩ := okWide_struct Tryd.underlying43 (hval 0 43 v0 rfl rfl)
  obtain ⟨n0, e0, b0⟩ := Go.Q.rd_fr43 (Go.Q.rd_of h0)
  obtain rfl : c0 = (Go.Q.frC n0).toArray := by rw [← e0]; rfl
  have k1 := h1
  have lt1 : ∀ x ∈ p1, x.block < W.heap.size := by obtain ⟨m, hm⟩ := k1; exact DataW.trod_lt m _ _ _ hm
  obtain ⟨u1, n1, e1, s1, b1⟩ := Go.Q.rd_strings Tryd.underlying22 Tryd.underlying9 (by kernel_rfl) (Go.Q.rd_of h1)
  obtain rfl := Go.Q.val_one (by rw [Tryd.underlying22]; trivial) (hval 1 22 v1 rfl rfl) e1
  clear hA0 hval0
  refine (Go.Q.FrameMakes_c (Go.Q.Has.start W) hnib n0 b0.1 s1 b1).mono fun e W' ⟨he, hH⟩ => ?_
  have bel := Go.Q.Has.below hH
  subst he
  exact ⟨_, rfl, _, _, _, [], _, [], hW', trodAll_mk1 (shut_bool Tryd.underlying4 _), (trodAll_cons_mk (Below.trod laidOut (by kernel_rfl) (of_decide_eq_true (by kernel_rfl)) k0 bel lt0) (trodAll_cons_mk (Below.trod laidOut (by kernel_rfl) (of_decide_eq_true (by kernel_rfl)) k1 bel lt1) trodAll_mk0)), rfl, bel.frame _, fun h => by cases h⟩

theorem over : Rows.FrameMakesSaid :=
  OpenClaim.holds_of_wide 11 Tryd.f11 rfl rfl rfl rfl rfl rfl rfl ⟨rfl, rfl, rfl, rfl, rfl⟩ rfl rfl rfl rfl rfl (by kernel_rfl) Tryd.func11 (by kernel_rfl)
    (of_decide_eq_true (by kernel_rfl)) (by unfold Func.isWrapper; first | (rw [if_pos (by decide +kernel)]; kernel_rfl) | (rw [if_neg (by decide +kernel)]; exact ⟨rfl, rfl⟩))
    (fun os started H enc _ => lifted os started H enc)

theorem proved : Rows.FrameMakesCardSaid :=
  Claim7.holds_tied_plain_at .later [] [.data] true (true, "5e6f5e490da1f8d3d0a24b7761c3510e7f6457f06e89beb916a6868d4973c593") false
    over (fun _ h => by cases h) (by kernel_rfl) (fun _ h => by cases h) frameMakes_row_tie rfl ⟨rfl, rfl⟩ (by kernel_rfl) rfl
    (fun f fn hf hfn => by
      obtain rfl : f = 11 := Option.some.inj ((show Tryd.prog.funcNamed Rows.frameMakesRow.func = some 11 by kernel_rfl).symm.trans hf) |>.symm
      obtain rfl : fn = Tryd.f11 := (Option.some.inj (Tryd.func11.symm.trans hfn)).symm
      refine ⟨by kernel_rfl, fun j t ht => ?_⟩
      rw [Tryd.params11] at ht
      rcases j with _ | _ | j
      · obtain rfl : t = 43 := by simpa using ht.symm
        exact (show Tryd.prog.wantsStandIn 43 = false by kernel_rfl)
      · obtain rfl : t = 22 := by simpa using ht.symm
        exact (show Tryd.prog.wantsStandIn 22 = false by kernel_rfl)
      · simp at ht)
    (by kernel_rfl)
#print axioms proved
end Go.Proofs.YtagicdbeacmffaaDoor.frameMakes
