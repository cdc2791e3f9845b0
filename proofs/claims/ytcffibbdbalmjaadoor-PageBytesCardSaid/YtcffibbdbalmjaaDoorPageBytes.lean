/-
  The law PageBytes holds: for every input that the row lets in, where the listed table reads as the program's text lays it (tied to that text by the card), its Go function returns true, and what was there before reads as before.
-/
import Derived.Test.YtcffibbdbalmjaaDoorB6
import Derived.Test.YtcffibbdbalmjaaDoorRows
import Derived.Test.YtcffibbdbalmjaaDoorTie
import Derived.Test.YtcffibbdbalmjaaDoorCards
import Derived.WalkKit
import Derived.ProofKit
import Derived.LaidMore
import Derived.OpenShut
import Derived.ShutString
import Derived.ChangeOld
import Derived.Below
import Derived.Stop.Joined
import Derived.SevenTiedAt
namespace Go.Proofs.YtcffibbdbalmjaaDoor.pageBytes
open Go.ChangeShapes Go.WideShapes Go.ChangeAt Go.RowKit
open Go.ChangeMaps (open_string shut_string)
set_option linter.unusedVariables false

theorem own : ownKnob Tryd.prog.godebug = none := by kernel_rfl
theorem laidOut : laidOutB Tryd.prog = true := by kernel_rfl

theorem of_laid {W : World} (h : laidMetH Tryd.prog Rows.pageBytesRow.laid W) : Go.Q.CellsAt [Go.Q.Hp.of W] 0 0 Go.Q.nibV := by
  rw [MakeChecks.laidMetH_plain _ _ _ (by kernel_rfl)] at h
  obtain ⟨ps, ⟨g0, t0, cs0, f0, p0, q0, hg0, ht0, hv0, hd0, _⟩, _, _⟩ := h
  have gn : Tryd.prog.globalNamed "quadriga/sum.nibbles" = some 0 := by kernel_rfl
  have tn : (Tryd.prog.globals[0]?).map (·.type) = some 174 := by kernel_rfl
  obtain rfl := Option.some.inj (gn.symm.trans hg0)
  obtain rfl := Option.some.inj (tn.symm.trans ht0)
  have hc := Go.Q.arr_cells (l := Go.Q.nibL) Tryd.underlying174 Tryd.underlying128 (by kernel_rfl) rfl hd0
  obtain ⟨b, off, e, hcell⟩ := Go.Q.cells_row (w := W) (x := ⟨0, 0, none⟩) (vs := Go.Q.nibV) (by decide) (fun i v hv => by
    obtain ⟨z, hz, rfl⟩ := Go.Q.nibV_L hv
    rw [Go.Q.add_lit, Nat.zero_add, World.var?_cell hg0 hv0 i]
    simpa using hc i z hz)
  cases e
  exact hcell

theorem door_met (os : Os) (args : Array Value) : laidMetH Tryd.prog Rows.pageBytesRow.laid ((World.doorLaid Tryd.prog 400 os).forCall (fun _ _ => 0) ⟨#[], args, []⟩).memory :=
  laidMetH_of_parts3 (fuel := 8) (laidMet_of_run' 8 (by kernel_rfl) (by kernel_rfl)) (by kernel_rfl) (by kernel_rfl)

set_option maxRecDepth 100000 in
theorem lifted (os : Os) (started : os.Started) (H : Type) (enc : TypeId × Value → H) :
    ReturnsInHanded {} Tryd.checked os 6 .any (fun w args => (Rows.pageBytesSpec.pre enc Tryd.prog Tryd.f6 [] false w args ∧ laidMetH Tryd.prog Rows.pageBytesRow.laid w) ∧ sizedMet enc Tryd.prog Tryd.f6 (OpenSpec.ofChange Rows.pageBytesSpec) false w args)
      (Rows.pageBytesSpec.post enc Tryd.prog Tryd.f6 false true false false) := by
  refine returnsInHanded_of_change_and (C := Tryd.checked) (X := fun w _ => laidMetH Tryd.prog Rows.pageBytesRow.laid w) (fun _ _ _ hh h => h.of_heap hh) own started (by kernel_rfl) Tryd.func6
    (ChangeSpec.witness_shaped (enc := enc) (C := Tryd.checked) (os := os) (X := fun w _ => laidMetH Tryd.prog Rows.pageBytesRow.laid w) false (World.doorLaid Tryd.prog 400 os) #[.agg #[.int .i64 0, .int .i64 0, .slice none 0 0], .agg #[.int .i64 0, .int .i64 0, .slice none 0 0], .string ⟨#[]⟩] 8 rfl (World.shaped_of_RefB (by kernel_rfl) (by kernel_rfl)) (by kernel_rfl) (by kernel_rfl) (by kernel_rfl) (door_met os _)) ?_
  intro W base args ds gs before hval0 hW _ _ hL _
  have hval : ∀ (j : Nat) t v, Tryd.f6.params[j]? = some t → args[j]? = some v → Value.okWide Tryd.prog W .any base t v := hval0
  have hW' := hW
  obtain ⟨p, q, hA0, hV, rfl, hfz, hnd⟩ := hW
  have hA : DataW.TrodAll enc Tryd.prog W 0 (fun _ => true) true Tryd.f6.params.toList args.toList ds p := hA0
  rw [Tryd.params6] at hA hval
  obtain ⟨v0, vs0, d0, ds0, p0, q0, hargs, rfl, rfl, h0, r0⟩ := trodAll_cons hA
  obtain ⟨v1, vs1, d1, ds1, p1, q1, rfl, rfl, rfl, h1, r1⟩ := trodAll_cons r0
  obtain ⟨v2, vs2, d2, ds2, p2, q2, rfl, rfl, rfl, h2, r2⟩ := trodAll_cons r1
  obtain ⟨rfl, rfl, rfl⟩ := trodAll_nil r2
  obtain rfl : args = #[v0, v1, v2] := by cases args; simp_all
  obtain ⟨rfl, rfl⟩ := trodVars_none hV
  have hnib := of_laid hL
  have k0 := h0
  have lt0 : ∀ x ∈ p0, x.block < W.heap.size := by obtain ⟨m, hm⟩ := k0; exact DataW.trod_lt m _ _ _ hm
  obtain ⟨c0, rfl, _⟩ := okWide_struct Tryd.underlying24 (hval 0 24 v0 rfl rfl)
  obtain ⟨n0, e0, b0⟩ := Go.Q.rd_page (Go.Q.rd_of h0)
  obtain rfl : c0 = (Go.Q.pgC n0).toArray := by rw [← e0]; rfl
  have k1 := h1
  have lt1 : ∀ x ∈ p1, x.block < W.heap.size := by obtain ⟨m, hm⟩ := k1; exact DataW.trod_lt m _ _ _ hm
  obtain ⟨c1, rfl, _⟩ := okWide_struct Tryd.underlying24 (hval 1 24 v1 rfl rfl)
  obtain ⟨n1, e1, b1⟩ := Go.Q.rd_page (Go.Q.rd_of h1)
  obtain rfl : c1 = (Go.Q.pgC n1).toArray := by rw [← e1]; rfl
  have k2 := h2
  have lt2 : ∀ x ∈ p2, x.block < W.heap.size := by obtain ⟨m, hm⟩ := k2; exact DataW.trod_lt m _ _ _ hm
  obtain ⟨n2, e2, b2⟩ := Go.Q.rd_string Tryd.underlying9 (Go.Q.rd_of h2)
  obtain rfl := Go.Q.val_one (by rw [Tryd.underlying9]; trivial) (hval 2 9 v2 rfl rfl) e2
  clear hA0 hval0
  refine (Go.Q.PageBytes_c (noa := n0.1) (gsna := n0.2.1) (nob := n1.1) (gsnb := n1.2.1) (s := n2) (Go.Q.Has.start W) b0.1 b1.1 hnib).mono fun e W' ⟨he, hH⟩ => ?_
  have bel := Go.Q.Has.below hH
  subst he
  exact ⟨_, rfl, _, _, _, [], _, [], hW', trodAll_mk1 (shut_bool Tryd.underlying4 _), (trodAll_cons_mk (Below.trod laidOut (by kernel_rfl) (of_decide_eq_true (by kernel_rfl)) k0 bel lt0) (trodAll_cons_mk (Below.trod laidOut (by kernel_rfl) (of_decide_eq_true (by kernel_rfl)) k1 bel lt1) (trodAll_cons_mk (Below.trod laidOut (by kernel_rfl) (of_decide_eq_true (by kernel_rfl)) k2 bel lt2) trodAll_mk0))), rfl, bel.frame _, fun h => by cases h⟩

theorem over : Rows.PageBytesSaid :=
  OpenClaim.holds_of_wide 6 Tryd.f6 rfl rfl rfl rfl rfl rfl rfl ⟨rfl, rfl, rfl, rfl, rfl⟩ rfl rfl rfl rfl rfl (by kernel_rfl) Tryd.func6 (by kernel_rfl)
    (of_decide_eq_true (by kernel_rfl)) (by unfold Func.isWrapper; first | (rw [if_pos (by decide +kernel)]; kernel_rfl) | (rw [if_neg (by decide +kernel)]; exact ⟨rfl, rfl⟩))
    (fun os started H enc _ => lifted os started H enc)

theorem proved : Rows.PageBytesCardSaid :=
  Claim7.holds_tied_plain_at .later [] [.data] true (true, "0d10646641be07bf326f5ac7992fb16c7e837eaed5ed9e6a24f7ca0964f02b51") false
    over (fun _ h => by cases h) (by kernel_rfl) (fun _ h => by cases h) pageBytes_row_tie rfl ⟨rfl, rfl⟩ (by kernel_rfl) rfl
    (fun f fn hf hfn => by
      obtain rfl : f = 6 := Option.some.inj ((show Tryd.prog.funcNamed Rows.pageBytesRow.func = some 6 by kernel_rfl).symm.trans hf) |>.symm
      obtain rfl : fn = Tryd.f6 := (Option.some.inj (Tryd.func6.symm.trans hfn)).symm
      refine ⟨by kernel_rfl, fun j t ht => ?_⟩
      rw [Tryd.params6] at ht
      rcases j with _ | _ | _ | j
      · obtain rfl : t = 24 := by simpa using ht.symm
        exact (show Tryd.prog.wantsStandIn 24 = false by kernel_rfl)
      · obtain rfl : t = 24 := by simpa using ht.symm
        exact (show Tryd.prog.wantsStandIn 24 = false by kernel_rfl)
      · obtain rfl : t = 9 := by simpa using ht.symm
        exact (show Tryd.prog.wantsStandIn 9 = false by kernel_rfl)
      · simp at ht)
    (by kernel_rfl)
#print axioms proved
end Go.Proofs.YtcffibbdbalmjaaDoor.pageBytes
