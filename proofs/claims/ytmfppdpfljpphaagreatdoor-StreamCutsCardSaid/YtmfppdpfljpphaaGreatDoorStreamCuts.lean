/-
  The law StreamCuts holds: for every input that the row lets in, where the listed tables read as the program's text and the form lay them (tied by the card), its Go function returns true, and what was there before reads as before.
-/
import Derived.Test.YtmfppdpfljpphaaGreatDoorB6
import Derived.Test.YtmfppdpfljpphaaGreatDoorRows
import Derived.Test.YtmfppdpfljpphaaGreatDoorTie
import Derived.Test.YtmfppdpfljpphaaGreatDoorCards
import Derived.WalkKit
import Derived.ProofKit
import Derived.LaidMore
import Derived.OpenShut
import Derived.ShutString
import Derived.ChangeOld
import Derived.Below
import Derived.Stop.Joined
import Derived.SevenTiedAt
import Derived.Lay
import Derived.MakeChecks
namespace Go.Proofs.YtmfppdpfljpphaaGreatDoor.streamCuts
open Go.ChangeShapes Go.WideShapes Go.ChangeAt Go.RowKit
open Go.ChangeMaps (open_string shut_string)
set_option linter.unusedVariables false

theorem own : ownKnob Tryz.prog.godebug = none := by kernel_rfl
theorem laidOut : laidOutB Tryz.prog = true := by kernel_rfl

theorem of_laid {W : World} (h : laidMetH Tryz.prog Rows.streamCutsRow.laid W) : Go.Q.CellsAt [Go.Q.Hp.of W] 0 0 Go.Q.nibV := by
  rw [MakeChecks.laidMetH_plain _ _ _ (by kernel_rfl)] at h
  obtain ⟨ps, ⟨_, _, _, _, _, _, _, _, _, _, ⟨g0, t0, cs0, f0, p0, q0, hg0, ht0, hv0, hd0, _⟩, _⟩, _, _⟩ := h
  have gn : Tryz.prog.globalNamed "quadriga/sum.nibbles" = some 0 := by kernel_rfl
  have tn : (Tryz.prog.globals[0]?).map (·.type) = some 406 := by kernel_rfl
  obtain rfl := Option.some.inj (gn.symm.trans hg0)
  obtain rfl := Option.some.inj (tn.symm.trans ht0)
  have hc := Go.Q.arr_cells (l := Go.Q.nibL) Tryz.underlying406 Tryz.underlying349 (by kernel_rfl) rfl hd0
  obtain ⟨b, off, e, hcell⟩ := Go.Q.cells_row (w := W) (x := ⟨0, 0, none⟩) (vs := Go.Q.nibV) (by decide) (fun i v hv => by
    obtain ⟨z, hz, rfl⟩ := Go.Q.nibV_L hv
    rw [Go.Q.add_lit, Nat.zero_add, World.var?_cell hg0 hv0 i]
    simpa using hc i z hz)
  cases e
  exact hcell

set_option maxRecDepth 100000 in
theorem lifted (os : Os) (started : os.Started) (H : Type) (enc : TypeId × Value → H) :
    ReturnsInHanded {} Tryz.checked os 4 .any (fun w args => (Rows.streamCutsSpec.pre enc Tryz.prog Tryz.f4 [] false w args ∧ laidMetH Tryz.prog Rows.streamCutsRow.laid w) ∧ sizedMet enc Tryz.prog Tryz.f4 (OpenSpec.ofChange Rows.streamCutsSpec) false w args)
      (Rows.streamCutsSpec.post enc Tryz.prog Tryz.f4 false true false false) := by
  refine returnsInHanded_of_change_and (C := Tryz.checked) (X := fun w _ => laidMetH Tryz.prog Rows.streamCutsRow.laid w) (fun _ _ _ hh h => h.of_heap hh) own started (by kernel_rfl) Tryz.func4
    (ChangeSpec.witness_shaped (enc := enc) (C := Tryz.checked) (os := os) (X := fun w _ => laidMetH Tryz.prog Rows.streamCutsRow.laid w) false (World.laidAll Tryz.prog os Rows.streamCutsRow.laid) #[.int .u8 0, .slice none 0 0, .int .u8 0, .int .i64 0, .slice none 0 0, .bool false, .slice none 0 0] 8 (World.laidAll_os _ _ _)
      (World.shaped_of_ZipB (by kernel_rfl) (by kernel_rfl)) (by kernel_rfl) (by kernel_rfl) (by kernel_rfl)
      (by rw [MakeChecks.laidMetH_plain _ _ _ (by kernel_rfl)]; exact laidMet_laidAll _ (by kernel_rfl) (by kernel_rfl))) ?_
  intro W base args ds gs before hval0 hW hcnd hsz hL _
  have hval : ∀ (j : Nat) t v, Tryz.f4.params[j]? = some t → args[j]? = some v → Value.okWide Tryz.prog W .any base t v := hval0
  have hW' := hW
  obtain ⟨p, q, hA0, hV, rfl, hfz, hnd⟩ := hW
  have hA : DataW.TrodAll enc Tryz.prog W 0 (fun _ => true) true Tryz.f4.params.toList args.toList ds p := hA0
  rw [Tryz.params4] at hA hval
  obtain ⟨v0, vs0, d0, ds0, p0, q0, hargs, rfl, rfl, h0, r0⟩ := trodAll_cons hA
  obtain ⟨v1, vs1, d1, ds1, p1, q1, rfl, rfl, rfl, h1, r1⟩ := trodAll_cons r0
  obtain ⟨v2, vs2, d2, ds2, p2, q2, rfl, rfl, rfl, h2, r2⟩ := trodAll_cons r1
  obtain ⟨v3, vs3, d3, ds3, p3, q3, rfl, rfl, rfl, h3, r3⟩ := trodAll_cons r2
  obtain ⟨v4, vs4, d4, ds4, p4, q4, rfl, rfl, rfl, h4, r4⟩ := trodAll_cons r3
  obtain ⟨v5, vs5, d5, ds5, p5, q5, rfl, rfl, rfl, h5, r5⟩ := trodAll_cons r4
  obtain ⟨v6, vs6, d6, ds6, p6, q6, rfl, rfl, rfl, h6, r6⟩ := trodAll_cons r5
  obtain ⟨rfl, rfl, rfl⟩ := trodAll_nil r6
  obtain rfl : args = #[v0, v1, v2, v3, v4, v5, v6] := by cases args; simp_all
  obtain ⟨rfl, rfl⟩ := trodVars_none hV
  have hnib := of_laid hL
  have k0 := h0
  have lt0 : ∀ x ∈ p0, x.block < W.heap.size := by obtain ⟨m, hm⟩ := k0; exact DataW.trod_lt m _ _ _ hm
  obtain ⟨n0, e0, b0⟩ := Go.Q.rd_int Tryz.underlying5 (Go.Q.RdS.rd (Go.Q.rds_of h0 hsz (j := 0) (by kernel_rfl) rfl))
  obtain rfl := Go.Q.val_one (by rw [Tryz.underlying5]; trivial) (hval 0 5 v0 rfl rfl) e0
  have k1 := h1
  have lt1 : ∀ x ∈ p1, x.block < W.heap.size := by obtain ⟨m, hm⟩ := k1; exact DataW.trod_lt m _ _ _ hm
  obtain ⟨u1, n1, e1, s1, b1, _⟩ := Go.Q.rds_strings Tryz.underlying46 Tryz.underlying9 (by kernel_rfl) (Go.Q.rds_of h1 hsz (j := 1) (by kernel_rfl) rfl)
  obtain rfl := Go.Q.val_one (by rw [Tryz.underlying46]; trivial) (hval 1 46 v1 rfl rfl) e1
  have k2 := h2
  have lt2 : ∀ x ∈ p2, x.block < W.heap.size := by obtain ⟨m, hm⟩ := k2; exact DataW.trod_lt m _ _ _ hm
  obtain ⟨n2, e2, b2⟩ := Go.Q.rd_int Tryz.underlying5 (Go.Q.RdS.rd (Go.Q.rds_of h2 hsz (j := 2) (by kernel_rfl) rfl))
  obtain rfl := Go.Q.val_one (by rw [Tryz.underlying5]; trivial) (hval 2 5 v2 rfl rfl) e2
  have k3 := h3
  have lt3 : ∀ x ∈ p3, x.block < W.heap.size := by obtain ⟨m, hm⟩ := k3; exact DataW.trod_lt m _ _ _ hm
  obtain ⟨n3, e3, b3⟩ := Go.Q.rd_i64 Tryz.underlying3 (Go.Q.RdS.rd (Go.Q.rds_of h3 hsz (j := 3) (by kernel_rfl) rfl))
  obtain rfl := Go.Q.val_one (by rw [Tryz.underlying3]; trivial) (hval 3 3 v3 rfl rfl) e3
  have k4 := h4
  have lt4 : ∀ x ∈ p4, x.block < W.heap.size := by obtain ⟨m, hm⟩ := k4; exact DataW.trod_lt m _ _ _ hm
  obtain ⟨u4, n4, e4, s4, b4, _⟩ := Go.Q.rds_strings Tryz.underlying46 Tryz.underlying9 (by kernel_rfl) (Go.Q.rds_of h4 hsz (j := 4) (by kernel_rfl) rfl)
  obtain rfl := Go.Q.val_one (by rw [Tryz.underlying46]; trivial) (hval 4 46 v4 rfl rfl) e4
  have k5 := h5
  have lt5 : ∀ x ∈ p5, x.block < W.heap.size := by obtain ⟨m, hm⟩ := k5; exact DataW.trod_lt m _ _ _ hm
  obtain ⟨n5, e5⟩ := Go.Q.rd_bool Tryz.underlying4 (Go.Q.RdS.rd (Go.Q.rds_of h5 hsz (j := 5) (by kernel_rfl) rfl))
  obtain rfl := Go.Q.val_one (by rw [Tryz.underlying4]; trivial) (hval 5 4 v5 rfl rfl) e5
  have k6 := h6
  have lt6 : ∀ x ∈ p6, x.block < W.heap.size := by obtain ⟨m, hm⟩ := k6; exact DataW.trod_lt m _ _ _ hm
  obtain ⟨u6, n6, e6, s6, b6⟩ := Go.Q.rd_ints Tryz.underlying47 Tryz.underlying3 (by kernel_rfl) (Go.Q.RdS.rd (Go.Q.rds_of h6 hsz (j := 6) (by kernel_rfl) rfl))
  obtain rfl := Go.Q.val_one (by rw [Tryz.underlying47]; trivial) (hval 6 47 v6 rfl rfl) e6
  clear hA0 hval0
  have w0 := Go.Q.wf_u8 b0
  have w2 := Go.Q.wf_u8 b2
  refine (Go.Q.StreamCuts_c (nn := n0) (aa := n2) (at_ := n3) (fl := n5) (Go.Q.Has.start W) hnib ⟨w0.1, w0.2⟩ ⟨w2.1, w2.2⟩ s1 b1 s4 b4 s6).mono fun e W' ⟨he, hH⟩ => ?_
  have bel := Go.Q.Has.below hH
  subst he
  exact ⟨_, rfl, _, _, _, [], _, [], hW', trodAll_mk1 (shut_bool Tryz.underlying4 _), (trodAll_cons_mk (Below.trod laidOut (by kernel_rfl) (of_decide_eq_true (by kernel_rfl)) k0 bel lt0) (trodAll_cons_mk (Below.trod laidOut (by kernel_rfl) (of_decide_eq_true (by kernel_rfl)) k1 bel lt1) (trodAll_cons_mk (Below.trod laidOut (by kernel_rfl) (of_decide_eq_true (by kernel_rfl)) k2 bel lt2) (trodAll_cons_mk (Below.trod laidOut (by kernel_rfl) (of_decide_eq_true (by kernel_rfl)) k3 bel lt3) (trodAll_cons_mk (Below.trod laidOut (by kernel_rfl) (of_decide_eq_true (by kernel_rfl)) k4 bel lt4) (trodAll_cons_mk (Below.trod laidOut (by kernel_rfl) (of_decide_eq_true (by kernel_rfl)) k5 bel lt5) (trodAll_cons_mk (Below.trod laidOut (by kernel_rfl) (of_decide_eq_true (by kernel_rfl)) k6 bel lt6) trodAll_mk0))))))), rfl, bel.frame _, fun h => by cases h⟩

set_option maxRecDepth 100000
theorem and_t {a b : Bool} (h : a = true) (h2 : b = true) : (a && b) = true := by rw [h, h2]; rfl
theorem joined0 : (Rows.streamCutsRow.wf (OpenSpec.ofChange Rows.streamCutsSpec)) = true := by kernel_rfl
theorem joined1 : (laidOutB Tryz.pinned.checked.prog) = true := by kernel_rfl
theorem joined2 : (mapsRowed Tryz.pinned.checked.prog) = true := by kernel_rfl
theorem joined3 : (Tryz.f4.params.all (Tryz.pinned.checked.prog.readableRec ·)) = true := by kernel_rfl
theorem joined4 : (namedTie Tryz.pinned.checked.prog Rows.streamCutsRow.named Rows.streamCutsSpec.vars) = true := by kernel_rfl
theorem joined5 : ((Rows.streamCutsRow.stops == [])) = true := by kernel_rfl
theorem joined6 : ((Tryz.pinned.checked.prog.stops == [])) = true := by kernel_rfl
theorem joined7 : ((Rows.streamCutsRow.knobs == [])) = true := by kernel_rfl
theorem joined8 : ((Tryz.pinned.checked.prog.stopKnobs == [])) = true := by kernel_rfl
theorem joined9 : ((Rows.streamCutsRow.inPlace == Tryz.pinned.checked.prog.inPlace 4)) = true := by kernel_rfl
theorem joined10 : ((Rows.streamCutsRow.unfollowed == Tryz.pinned.checked.prog.unfollowed 4)) = true := by kernel_rfl
theorem joined11 : ((Rows.streamCutsRow.recurses == Tryz.pinned.checked.prog.recurses 4)) = true := by kernel_rfl
theorem joined12 : ((Rows.streamCutsRow.named == Tryz.pinned.checked.prog.varsNamed 4)) = true := by kernel_rfl
theorem joined13 : ((Rows.streamCutsRow.maps == (Tryz.f4.params.toList ++ Rows.streamCutsSpec.plain.varTypes Tryz.pinned.checked.prog).any (Tryz.pinned.checked.prog.mapsRec ·))) = true := by kernel_rfl
theorem joined14 : ((Rows.streamCutsRow.ifaces == (Tryz.f4.params.toList ++ Rows.streamCutsSpec.plain.varTypes Tryz.pinned.checked.prog).any (Tryz.pinned.checked.prog.ifacesRec ·))) = true := by kernel_rfl
theorem joined15 : ((Rows.streamCutsRow.mapsOut == Tryz.pinned.checked.prog.mapsAmong Tryz.f4.resultTypes.toList)) = true := by kernel_rfl
theorem joined16 : ((Rows.streamCutsRow.loops == (Tryz.f4.params.toList ++ Rows.streamCutsSpec.plain.varTypes Tryz.pinned.checked.prog).any (Tryz.pinned.checked.prog.loopsFrom ·))) = true := by kernel_rfl
theorem joined17 : ((Rows.streamCutsRow.wideKeys == (Tryz.f4.params.toList ++ Rows.streamCutsSpec.plain.varTypes Tryz.pinned.checked.prog ++ Tryz.f4.resultTypes.toList).any (Tryz.pinned.checked.prog.wideKeysFrom ·))) = true := by kernel_rfl
theorem joined18 : (Rows.streamCutsSpec.vars.all (Tryz.pinned.checked.prog.varReadable ·)) = true := by kernel_rfl
theorem joined19 : (Tryz.f4.resultTypes.all (fun t => Tryz.pinned.checked.prog.readableRec t && decide (t < Tryz.pinned.checked.prog.types.size))) = true := by kernel_rfl
theorem joined20 : ((Rows.streamCutsRow.ifacesOut == Tryz.f4.resultTypes.toList.any (Tryz.pinned.checked.prog.ifacesRec ·))) = true := by kernel_rfl
theorem joined21 : ((Rows.streamCutsRow.loopsOut == Tryz.f4.resultTypes.toList.any (Tryz.pinned.checked.prog.loopsFrom ·))) = true := by kernel_rfl
theorem joined22 : ((Rows.streamCutsRow.plainKeys == Tryz.pinned.checked.prog.plainKeys)) = true := by kernel_rfl
theorem joined23 : (Rows.streamCutsRow.shortTexts.isNone) = true := by kernel_rfl
theorem joined24 : (Tryz.pinned.checked.prog.stopsHeard) = true := by kernel_rfl
theorem joined25 : (Tryz.pinned.checked.prog.mayEnter) = true := by kernel_rfl
theorem joined26 : ((Rows.streamCutsRow.lifted == Tryz.pinned.checked.prog.liftsFinal)) = true := by kernel_rfl
theorem joined27 : ((Tryz.pinned.checked.prog.make == some Rows.streamCutsRow.make)) = true := by kernel_rfl
theorem joined28 : ((Rows.streamCutsRow.kinds == (if Rows.streamCutsRow.domain.isEmpty then [] else Tryz.f4.params.toList.map fun t => match Tryz.pinned.checked.prog.underlying t with | some (.int k) => some k | _ => none))) = true := by kernel_rfl
theorem joined29 : ((Rows.streamCutsRow.pinned == Rows.streamCutsRow.pinnedBy)) = true := by kernel_rfl
theorem joined30 : ((Rows.streamCutsRow.veiled == (Tryz.f4.params.toList ++ Rows.streamCutsSpec.plain.varTypes Tryz.pinned.checked.prog ++ Tryz.f4.resultTypes.toList).any (Tryz.pinned.checked.prog.veiledRec ·))) = true := by kernel_rfl
theorem joined31 : (Rows.streamCutsRow.veiledFits Tryz.pinned.checked.prog Tryz.f4.params.toList (Tryz.f4.params.toList ++ Rows.streamCutsSpec.plain.varTypes Tryz.pinned.checked.prog ++ Tryz.f4.resultTypes.toList)) = true := by kernel_rfl
theorem card3 : Tryz.pinned.checked.prog.funcNamed Rows.streamCutsRow.func = some 4 := by kernel_rfl
theorem card1 : Rows.streamCutsRow.wfByText (OpenSpec.ofChange Rows.streamCutsSpec) = true := by kernel_rfl
theorem card2 : Tryz.pinned.checked.prog.mainIs = some (true, "26b445e7deca38c5f4faaa049739f6fd9d6f8a5da62ffb964f1ce82b65fd30f7".toList) := by kernel_rfl
theorem card4 : false = Tryz.pinned.checked.prog.looks [] := by kernel_rfl
theorem card5_5 : Tryz.prog.wantsStandIn 5 = false := by kernel_rfl
theorem card5_46 : Tryz.prog.wantsStandIn 46 = false := by kernel_rfl
theorem card5_3 : Tryz.prog.wantsStandIn 3 = false := by kernel_rfl
theorem card5_4 : Tryz.prog.wantsStandIn 4 = false := by kernel_rfl
theorem card5_47 : Tryz.prog.wantsStandIn 47 = false := by kernel_rfl
theorem card7 : false = Rows.streamCutsRow.goesBy Tryz.pinned.checked.prog := by kernel_rfl
theorem joined : joinedFacts Tryz.pinned.checked.prog 4 Tryz.f4 Rows.streamCutsSpec Rows.streamCutsRow = true := by
  unfold joinedFacts
  exact (and_t (and_t (and_t (and_t (and_t (and_t (and_t (and_t (and_t (and_t (and_t (and_t (and_t (and_t (and_t (and_t (and_t (and_t (and_t (and_t (and_t (and_t (and_t (and_t (and_t (and_t (and_t (and_t (and_t (and_t (and_t joined0 joined1) joined2) joined3) joined4) joined5) joined6) joined7) joined8) joined9) joined10) joined11) joined12) joined13) joined14) joined15) joined16) joined17) joined18) joined19) joined20) joined21) joined22) joined23) joined24) joined25) joined26) joined27) joined28) joined29) joined30) joined31)

theorem over : Rows.StreamCutsSaid :=
  OpenClaim.holds_of_wide 4 Tryz.f4 rfl rfl rfl rfl rfl rfl rfl ⟨rfl, rfl, rfl, rfl, rfl⟩ rfl rfl rfl rfl rfl card3 Tryz.func4 joined
    (of_decide_eq_true (by kernel_rfl)) (by unfold Func.isWrapper; first | (rw [if_pos (by decide +kernel)]; kernel_rfl) | (rw [if_neg (by decide +kernel)]; exact ⟨rfl, rfl⟩))
    (fun os started H enc _ => lifted os started H enc)

theorem proved : Rows.StreamCutsCardSaid :=
  Claim7.holds_tied_plain_at .later [] [.data, .data, .pinned] true (true, "26b445e7deca38c5f4faaa049739f6fd9d6f8a5da62ffb964f1ce82b65fd30f7") false
    over (fun _ h => by cases h) card1 (fun _ h => by cases h) streamCuts_row_tie rfl ⟨rfl, rfl⟩ card2 rfl
    (fun f fn hf hfn => by
      obtain rfl : f = 4 := Option.some.inj (card3.symm.trans hf) |>.symm
      obtain rfl : fn = Tryz.f4 := (Option.some.inj (Tryz.func4.symm.trans hfn)).symm
      refine ⟨card4, fun j t ht => ?_⟩
      rw [Tryz.params4] at ht
      rcases j with _ | _ | _ | _ | _ | _ | _ | j
      · obtain rfl : t = 5 := by simpa using ht.symm
        exact card5_5
      · obtain rfl : t = 46 := by simpa using ht.symm
        exact card5_46
      · obtain rfl : t = 5 := by simpa using ht.symm
        exact card5_5
      · obtain rfl : t = 3 := by simpa using ht.symm
        exact card5_3
      · obtain rfl : t = 46 := by simpa using ht.symm
        exact card5_46
      · obtain rfl : t = 4 := by simpa using ht.symm
        exact card5_4
      · obtain rfl : t = 47 := by simpa using ht.symm
        exact card5_47
      · simp at ht)
    card7
#print axioms proved
end Go.Proofs.YtmfppdpfljpphaaGreatDoor.streamCuts
