/-
  Parts of a walk: what functions of the program compute, each told by a theorem (QELk4, QELk5, QELk6, QZ, QESh1, QESh2, QESh3, QRet, QELk7, QApp, QELk8, QELk9, QELk10).
-/
import Derived.Test.YtcffibbdbalmjaaB2
import Derived.Below
import Derived.Shelf.Strings.OnBuilder
import Derived.Shelf.Strings.Repeat
import Derived.Shelf.Bits.Mul64
import Derived.Shelf.SlIterI.Sorted
import Derived.Shelf.SortM.Plain
import Derived.Shelf.SortM.SortNone
import Derived.Maps.Range
import Derived.Shelf.SlIter.Nil
import Derived.Sort.KeysCollected
import Derived.StringKeys
import Derived.ArgAppend
set_option linter.unusedVariables false
set_option linter.unusedSimpArgs false
namespace Go.Q
open Go.Proofs
set_option linter.unusedVariables false
set_option maxRecDepth 100000
attribute [local irreducible] wpList OK Code.wp
set_option maxHeartbeats 4000000 in
theorem pdelf_c {E w : World} {R : List Hp} {v_l : Value} {s_l : List Hp} {l : List Plc} {fn : FuncId} {first cap : Array Value} {va : Value → Array Value} {c : Plc → Bool}  (hH : Has E w [s_l, R]) (h_l : Own 170 3 v_l l.length (l.flatMap plC) s_l) (hcl : Callable Try.prog fn) (hva : ∀ v, first ++ #[v] ++ cap = va v) (hcb : ∀ {w : World} (F_ : List Hp) (x_ : Plc), Has E w [R, F_] → Calls Try.prog fn (va (.agg #[(S x_.key), (.bool x_.wr), (.int .i64 x_.own)])) w fun e w' => e = .returned (.bool (c x_)) ∧ Has E w' [R, F_]) (hn : l.length ≤ 1000000) :
    Calls Try.prog 131 #[v_l, (.func (.func fn) first cap)] w fun e w' => ∃ (v1' : Value) (s2' : List Hp), e = .returned v1' ∧ (Own 170 3 v1' (l.filter fun x_ => !c x_).length ((l.filter fun x_ => !c x_).flatMap plC) s2') ∧ Has E w' [s2', R] := by
  refine c_enter (args := [v_l, (.func (.func fn) first cap)]) Try.func131 rfl Try.ntmps131 (by simp) ?_
  refine wp_seq_k fun K1 hK1 => ?_
  refine c_region ?_
  refine s_op (o_assign (v := (.slice none 0 0)) rfl ?_)
  refine s_nil ?_
  refine t_norm (hK1 _ _ ?_)
  refine wp_seq_k fun K2 hK2 => ?_
  refine c_region ?_
  refine s_op (o_move (v := v_l) rfl ?_)
  refine s_op (o_move (v := (.func (.func fn) first cap)) rfl ?_)
  have hH3 := (hH.front 1 rfl)
  refine s_op (o_callf (vs := #[v_l, (.func (.func fn) first cap)]) ca125 rfl (args2 rfl rfl) (pindexf_c (l := l) (c := c) (va := va) hH3.all (h_l.sl.mono (seg_sub 1 rfl)) hcl hva (cb_more (α := Plc) (R := R) (va := fun x_ => va (.agg #[(S x_.key), (.bool x_.wr), (.int .i64 x_.own)])) (A := fun x_ e_ => e_ = .returned (.bool (c x_))) hcb)) ?_)
  rintro _ w6 ⟨rfl, hX4⟩
  refine ⟨_, rfl, ?_⟩
  have hH5 := hX4.of_all
  refine s_op (o_assign (v := (.int .i64 (idxG c l))) rfl ?_)
  refine s_nil ?_
  refine t_norm (hK2 _ _ ?_)
  refine wp_seq_k fun K7 hK7 => ?_
  refine wp_seq_k fun K8 hK8 => ?_
  refine c_region ?_
  refine s_op (o_move (v := (.int .i64 (idxG c l))) rfl ?_)
  refine s_op (o_eql (a := idxG c l) (b := -1) rfl rfl ?_)
  refine s_nil ?_
  refine t_norm (hK8 _ _ ?_)
  refine c_cond rfl (fun h9 => ?_) (fun h9 => ?_)
  · -- idxG c l = -1
    refine wp_seq_k fun K10 hK10 => ?_
    refine c_region ?_
    refine s_op (o_move (v := v_l) rfl ?_)
    refine s_op (o_assign (v := v_l) rfl ?_)
    refine s_nil ?_
    refine t_norm (hK10 _ _ ?_)
    refine wp_ret ?_
    refine t_ret (c_ret1 Try.results131  (v := v_l) rfl ?_)
    have hH11 : Has E w6 [s_l, R] := (hH5.front 1 rfl).first 2 rfl
    have q_ : (l.filter fun x_ => !c x_) = l := df_none h9
    exact ⟨_, _, rfl, by rw [q_]; exact h_l, hH11⟩
  · -- not: idxG c l = -1
    have hix : 0 ≤ idxG c l := by have h_ := idxG_lt c l; omega
    have hix2 : idxG c l < l.length := (idxG_lt c l).2
    refine wp_skip ?_
    refine t_norm (hK7 _ _ ?_)
    refine wp_seq_k fun K12 hK12 => ?_
    refine wp_seq_k fun K13 hK13 => ?_
    refine c_region ?_
    refine s_op (o_move (v := (.int .i64 (idxG c l))) rfl ?_)
    refine s_op (o_add (a := idxG c l) (b := 1) rfl rfl (w64 (by omega) (by omega)) ?_)
    refine s_op (o_assign (v := (.int .i64 ((idxG c l) + 1))) rfl ?_)
    refine s_nil ?_
    refine t_norm (hK13 _ _ ?_)
    refine wp_block ?_
    let I15 : Nat → (Nat → Value) → World → Prop := fun n__ r__ w__ => ∃ (ii : Int) (jj : Int) (sw : List Hp) (lw : List Plc), n__ = (l.length - jj).toNat ∧ Has E w__ [sw, R] ∧ (0 ≤ ii ∧ ii < jj ∧ jj ≤ (l.length : Int)) ∧ (lw.length = l.length) ∧ (Own 170 3 v_l lw.length (lw.flatMap plC) sw) ∧ (lw.take ii.toNat = (l.take jj.toNat).filter fun x_ => !c x_) ∧ (lw.drop jj.toNat = l.drop jj.toNat) ∧ r__ 0 = v_l ∧ r__ 1 = (.func (.func fn) first cap) ∧ r__ 4 = (.slice none 0 0) ∧ r__ 5 = (.int .i64 ii) ∧ r__ 6 = (.int .i64 jj) ∧ r__ 12 = (.bool (decide (idxG c l = -1)))
    have hH16 : Has E w6 [s_l, R] := (hH5.front 1 rfl).first 2 rfl
    refine c_loop I15 _ ⟨(idxG c l), (idxG c l + 1), s_l, l, rfl, hH16, ⟨by omega, by omega, by omega⟩, rfl, h_l, (by rw [show (idxG c l + 1).toNat = (idxG c l).toNat + 1 by omega]; exact df_start hix), rfl, rfl, rfl, rfl, rfl, rfl, rfl⟩ ?_
    rintro n_ r19 w17 ⟨ii, jj, sw, lw, rfl, hH18, hij, hlw, hw, htk, hdr, e14_0, e14_1, e14_4, e14_5, e14_6, e14_12⟩
    have hn_ := hw.sl.le
    obtain ⟨hij1, hij2, hij3⟩ := hij
    refine wp_seq_k fun K20 hK20 => ?_
    refine wp_seq_k fun K21 hK21 => ?_
    refine c_region ?_
    refine s_op (o_move (v := (.int .i64 jj)) e14_6 ?_)
    refine s_op (o_move (v := v_l) e14_0 ?_)
    refine s_op (o_lenS Try.underlying166 rfl hw.sl ?_)
    refine s_op (o_lss (a := jj) (b := ((lw.length : Nat) : Int)) rfl rfl ?_)
    refine s_nil ?_
    refine t_norm (hK21 _ _ ?_)
    refine c_cond rfl (fun h22 => ?_) (fun h22 => ?_)
    · -- jj < ((lw.length : Nat) : Int)
      refine wp_skip ?_
      refine t_norm (hK20 _ _ ?_)
      refine wp_seq_k fun K23 hK23 => ?_
      refine wp_block ?_
      refine wp_seq_k fun K24 hK24 => ?_
      refine c_region ?_
      refine s_op (o_move (v := v_l) e14_0 ?_)
      refine s_op (o_move (v := (.int .i64 jj)) e14_6 ?_)
      obtain ⟨x28, hx29⟩ : ∃ x_, lw[(jj).toNat]? = some x_ := get_some (by omega)
      refine s_op (o_indexF plC_len Try.underlying166 ti170 rfl hw.sl rfl rfl (by omega) hx29 fun b25 o26 hc27 => ?_)
      refine s_op (o_loadN (cs := [(S x28.key), (.bool x28.wr), (.int .i64 x28.own)]) Try.underlying170 rfl ti170 rfl hH18 (seg_sub 0 rfl) hc27 ?_)
      refine s_op (o_alloc (cs := #[(S ([] : List UInt8)), (.bool false), (.int .i64 0)]) ti170 rfl hH18 fun b30 w31 hH32 => ?_)
      refine s_eff (o_storeN (vs := [(S x28.key), (.bool x28.wr), (.int .i64 x28.own)]) (c' := #[(S x28.key), (.bool x28.wr), (.int .i64 x28.own)]) ti170 rfl rfl rfl rfl (by intro u hu; simp only [List.mem_cons, List.not_mem_nil, or_false] at hu; rcases hu with rfl | rfl | rfl <;> first | rfl) (by simp) (by kernel_rfl) (hH32.front 0 rfl) fun w33 hH34 => ?_)
      refine s_nil ?_
      refine t_norm (hK24 _ _ ?_)
      refine wp_seq_k fun K35 hK35 => ?_
      refine c_region ?_
      refine s_op (o_move (v := (.func (.func fn) first cap)) e14_1 ?_)
      refine s_op (o_loadN (cs := [(S x28.key), (.bool x28.wr), (.int .i64 x28.own)]) Try.underlying170 rfl ti170 rfl hH34 (seg_sub 0 rfl) (CellsAt.one rfl) ?_)
      refine s_op (o_callf (first := first) (captured := cap) (vs := va (.agg #[(S x28.key), (.bool x28.wr), (.int .i64 x28.own)])) hcl rfl ((argsG1 rfl).trans (hva _)) (hcb _ x28 (hH34.front 2 rfl).all1) ?_)
      rintro _ w38 ⟨rfl, hX36⟩
      refine ⟨_, rfl, ?_⟩
      have hH37 := hX36.of_all1
      refine s_op (o_not rfl ?_)
      refine s_nil ?_
      refine t_norm (hK35 _ _ ?_)
      refine c_condb rfl (fun h39 => ?_) (fun h39 => ?_)
      · -- !(c x28)
        have h39_n : (c x28) = false := by simpa using h39
        refine wp_seq_k fun K40 hK40 => ?_
        refine c_region ?_
        refine s_op (o_move (v := v_l) e14_0 ?_)
        refine s_op (o_move (v := (.int .i64 ii)) e14_5 ?_)
        refine s_op (o_loadN (cs := [(S x28.key), (.bool x28.wr), (.int .i64 x28.own)]) Try.underlying170 rfl ti170 rfl hH37 (seg_sub 1 rfl) (CellsAt.one rfl) ?_)
        refine s_op (o_ownAddrF Try.underlying166 ti170 rfl hw rfl (by omega) (by first | omega | (simp only [List.length_append, List.length_cons, List.length_nil, List.length_set]; omega)) fun b41 ho42 => ?_)
        refine s_eff (o_ownStoreF (f := plC) (l := lw) (a := x28) (i := (ii).toNat) plC_len ti170 rfl rfl rfl (fun u_ hu_ => (one_plC [x28]) u_ (by simpa using hu_)) ho42 (by first | rfl | (simp only [List.length_append, List.length_cons, List.length_nil, List.length_set]; done) | simp) (by first | omega | (simp only [List.length_append, List.length_cons, List.length_nil, List.length_set]; omega)) (hH37.front 2 rfl) fun s43 w44 ho45 hH46 => ?_)
        refine s_nil ?_
        refine t_norm (hK40 _ _ ?_)
        refine c_region ?_
        refine s_op (o_move (v := (.int .i64 ii)) e14_5 ?_)
        refine s_op (o_add (a := ii) (b := 1) rfl rfl (w64 (by omega) (by omega)) ?_)
        refine s_op (o_assign (v := (.int .i64 (ii + 1))) rfl ?_)
        refine s_nil ?_
        refine b_norm ?_
        refine t_norm (hK23 _ _ ?_)
        refine c_region ?_
        refine s_op (o_move (v := (.int .i64 jj)) e14_6 ?_)
        refine s_op (o_add (a := jj) (b := 1) rfl rfl (w64 (by omega) (by omega)) ?_)
        refine s_op (o_assign (v := (.int .i64 (jj + 1))) rfl ?_)
        refine s_nil ?_
        have hH47 : Has E w44 [s43, R] := ((hH46.front 1 rfl).front 1 rfl).first 2 rfl
        refine t_norm ⟨(l.length - (jj + 1)).toNat, _, rfl, ?_, ?_⟩
        · omega
        · exact ⟨(ii + 1), (jj + 1), s43, (lw.set ((ii).toNat) x28), rfl, hH47, (⟨by omega, by omega, by omega⟩), (by rw [List.length_set]; exact hlw), (ho45), (by rw [show (ii + 1).toNat = ii.toNat + 1 by omega, show (jj + 1).toNat = jj.toNat + 1 by omega]; exact df_keep htk (show lw[jj.toNat]? = some _ from hx29) hdr (by omega) (by omega) h39_n), (by rw [show (jj + 1).toNat = jj.toNat + 1 by omega]; exact df_drops hdr (by omega)), e14_0, e14_1, e14_4, rfl, rfl, e14_12⟩
      · -- not: !(c x28)
        have h39_n : (c x28) = true := by simpa using h39
        refine wp_skip ?_
        refine b_norm ?_
        refine t_norm (hK23 _ _ ?_)
        refine c_region ?_
        refine s_op (o_move (v := (.int .i64 jj)) e14_6 ?_)
        refine s_op (o_add (a := jj) (b := 1) rfl rfl (w64 (by omega) (by omega)) ?_)
        refine s_op (o_assign (v := (.int .i64 (jj + 1))) rfl ?_)
        refine s_nil ?_
        have hH48 : Has E w38 [sw, R] := (hH37.front 2 rfl).first 2 rfl
        refine t_norm ⟨(l.length - (jj + 1)).toNat, _, rfl, ?_, ?_⟩
        · omega
        · exact ⟨ii, (jj + 1), sw, lw, rfl, hH48, (⟨by omega, by omega, by omega⟩), (hlw), (hw), (by rw [show (jj + 1).toNat = jj.toNat + 1 by omega]; exact df_skip htk (show lw[jj.toNat]? = some _ from hx29) hdr h39_n), (by rw [show (jj + 1).toNat = jj.toNat + 1 by omega]; exact df_drop hdr), e14_0, e14_1, e14_4, e14_5, rfl, e14_12⟩
    · -- not: jj < ((lw.length : Nat) : Int)
      refine wp_exit ?_
      refine t_exit (t_exit (x_in (?_)))
      refine t_norm (hK12 _ _ ?_)
      refine wp_seq_k fun K49 hK49 => ?_
      refine c_region ?_
      have e_ : jj = (l.length : Int) := by omega
      obtain ⟨hl_, ⟨_, h0_, _⟩ | ⟨gb_, gcap_, gcur_, rfl, rfl, hnc_, hcm_, hsz_, hc_⟩⟩ := hw
      · exfalso; omega
      have hcm2_ : gcap_ ≤ 9223372036854775807 := by simpa [maxLen] using hcm_
      have hcs_ : lw.length * 3 ≤ gcur_.size := by rw [hsz_]; exact Nat.mul_le_mul_right _ hnc_
      refine s_op (o_move (v := (.slice (some ⟨gb_, 0, none⟩) lw.length gcap_)) e14_0 ?_)
      refine s_op (o_move (v := (.int .i64 ii)) e14_5 ?_)
      obtain ⟨o50, n51, c52, ho56, hn53, hc54, hq55⟩ := rsl_ex4 0 3 (i := ii) (j := ((lw.length : Nat) : Int)) (m := ((gcap_ : Nat) : Int)) (by omega) (by omega) (by omega)
      refine s_op (o_rsl2 (i := ii) (j := ((lw.length : Nat) : Int)) (m := ((gcap_ : Nat) : Int)) Try.underlying166 ti170 rfl (bounds_l (n := lw.length) (cap := gcap_) (i := ii) (by omega) (by omega)) (by omega) (by omega) (by omega) ho56 hn53 hc54 ?_)
      refine s_eff (o_clear Try.underlying166 ti170 rfl rfl hH18 (by omega) (fun u hu => by (have h_ : u ∈ ([(S ([] : List UInt8)), (.bool false), (.int .i64 0)] : List Value) := by simpa [Value.cells, S] using hu); simp only [List.mem_cons, List.not_mem_nil, or_false] at h_; rcases h_ with rfl | rfl | rfl <;> rfl) fun c57 w58 v59 hc60 hc61 hH62 => ?_)
      refine s_nil ?_
      refine t_norm (hK49 _ _ ?_)
      refine wp_seq_k fun K63 hK63 => ?_
      refine c_region ?_
      refine s_op (o_move (v := (.slice (some ⟨gb_, 0, none⟩) lw.length gcap_)) e14_0 ?_)
      refine s_op (o_move (v := (.int .i64 ii)) e14_5 ?_)
      obtain ⟨o64, n65, c66, ho70, hn67, hc68, hq69⟩ := rsl_ex4 0 3 (i := 0) (j := ii) (m := ((gcap_ : Nat) : Int)) (by omega) (by omega) (by omega)
      refine s_op (o_rsl2 (i := 0) (j := ii) (m := ((gcap_ : Nat) : Int)) Try.underlying166 ti170 rfl (bounds_h (n := lw.length) (cap := gcap_) (j := ii) (by omega) (by omega)) (by omega) (by omega) (by omega) ho70 hn67 hc68 ?_)
      refine s_op (o_assign (v := (.slice (some ⟨gb_, o64, none⟩) n65 c66)) rfl ?_)
      refine s_nil ?_
      refine t_norm (hK63 _ _ ?_)
      refine wp_ret ?_
      refine c_ret1 Try.results131  (v := (.slice (some ⟨gb_, o64, none⟩) n65 c66)) rfl ?_
      have htk' : lw.take ii.toNat = l.filter fun x_ => !c x_ := by rw [htk, List.take_of_length_le (by omega)]
      have hil_ : (l.filter fun x_ => !c x_).length = ii.toNat := by rw [← htk', List.length_take]; omega
      refine ⟨_, _, rfl, ⟨?_, .inr ⟨gb_, c66, c57, by rw [hil_, show n65 = ii.toNat from by omega, show (o64 : Nat) = 0 from by omega], rfl, by omega, by simp only [maxLen]; omega, by have h_ := hc60; simp only [Array.length_toList] at h_; omega, ?_⟩⟩, hH62⟩
      · exact flat_len plC_len _
      · rw [hil_, ← htk']; exact df_endF plC_len hc61 hc_ (by omega) (by omega)
end Go.Q
namespace Go.Q
open Go.Proofs
set_option linter.unusedVariables false
set_option maxRecDepth 100000
attribute [local irreducible] wpList OK Code.wp
set_option maxHeartbeats 4000000 in
theorem pdel_blk {E w : World} {R : List Hp} (g n cap i : Nat) (c : Array Value) (hH : Has E w [[Hp.one g (.cells c 170 (0, 0))], R]) (hi : i < n) (hnc : n ≤ cap) (hcap : cap ≤ 9223372036854775807) (hcs : c.size = cap * 3) (h1 : ∀ u ∈ c.toList.take (n * 3), u.oneCell' = true) :
    Calls Try.prog 166 #[(.slice (some ⟨g, 0, none⟩) n cap), (.int .i64 (i : Int)), (.int .i64 ((i : Int) + 1))] w fun e w' => ∃ v' hs', e = .returned v' ∧ Own 170 3 v' (n - 1) (c.toList.take (i * 3) ++ (c.toList.take (n * 3)).drop ((i + 1) * 3)) hs' ∧ Has E w' [hs', R] := by
  refine c_enter (args := [(.slice (some ⟨g, 0, none⟩) n cap), (.int .i64 (i : Int)), (.int .i64 ((i : Int) + 1))]) Try.func166 rfl Try.ntmps166 (by simp) ?_
  refine wp_seq_k fun K1 hK1 => ?_
  refine c_region ?_
  refine s_op (o_assign (v := (.slice none 0 0)) rfl ?_)
  refine s_nil ?_
  refine t_norm (hK1 _ _ ?_)
  refine wp_seq_k fun K2 hK2 => ?_
  refine c_region ?_
  refine s_op (o_move (v := (.slice (some ⟨g, 0, none⟩) n cap)) rfl ?_)
  refine s_op (o_move (v := (.int .i64 (i : Int))) rfl ?_)
  refine s_op (o_move (v := (.int .i64 ((i : Int) + 1))) rfl ?_)
  refine s_op (o_move (v := (.slice (some ⟨g, 0, none⟩) n cap)) rfl ?_)
  refine s_op (o_len Try.underlying166 rfl ?_)
  obtain ⟨o3, n4, c5, ho9, hn6, hc7, hq8⟩ := rsl_ex4 0 3 (i := (i : Int)) (j := (i : Int) + 1) (m := (n : Int)) (by omega) (by omega) (by omega)
  refine s_op (o_rsl2 (i := (i : Int)) (j := (i : Int) + 1) (m := (n : Int)) Try.underlying166 ti170 rfl (bounds_lhm (n := n) (cap := cap) (i := (i : Int)) (j := (i : Int) + 1) (m := (n : Int)) (by omega) (by omega) (by omega) (by omega)) (by omega) (by omega) (by omega) ho9 hn6 hc7 ?_)
  refine s_nil ?_
  refine t_norm (hK2 _ _ ?_)
  refine wp_seq_k fun K10 hK10 => ?_
  refine wp_seq_k fun K11 hK11 => ?_
  refine c_region ?_
  refine s_op (o_move (v := (.int .i64 (i : Int))) rfl ?_)
  refine s_op (o_move (v := (.int .i64 ((i : Int) + 1))) rfl ?_)
  refine s_op (o_eql (a := (i : Int)) (b := (i : Int) + 1) rfl rfl ?_)
  refine s_nil ?_
  refine t_norm (hK11 _ _ ?_)
  refine c_cond rfl (fun h12 => ?_) (fun h12 => ?_)
  · -- (i : Int) = (i : Int) + 1
    exfalso; omega
  · -- not: (i : Int) = (i : Int) + 1
    refine wp_skip ?_
    refine t_norm (hK10 _ _ ?_)
    refine wp_seq_k fun K13 hK13 => ?_
    refine c_region ?_
    refine s_op (o_move (v := (.slice (some ⟨g, 0, none⟩) n cap)) rfl ?_)
    refine s_op (o_len Try.underlying166 rfl ?_)
    refine s_op (o_assign (v := (.int .i64 (n : Int))) rfl ?_)
    refine s_nil ?_
    refine t_norm (hK13 _ _ ?_)
    refine wp_seq_k fun K14 hK14 => ?_
    refine Rest.region mixed (by kernel_rfl) ?_
    have hH15 : Has E { w with drawn := w.drawn + 1 } [[Hp.one g (.cells c 170 (0, 0))], R] := Has0.drew hH _
    refine Rest.phaseA (fun w_ => Has E w_ []) 0 6 6 rfl (by decide) (by kernel_rfl) ?_
    refine a_op 0 rfl (by kernel_rfl) (fun w_ h_ => o_move (v := (.slice (some ⟨g, 0, none⟩) n cap)) rfl ⟨rfl, rfl⟩) ?_
    refine a_op 1 rfl (by kernel_rfl) (fun w_ h_ => o_move (v := (.int .i64 (i : Int))) rfl ⟨rfl, rfl⟩) ?_
    obtain ⟨o16, n17, c18, ho22, hn19, hc20, hq21⟩ := rsl_ex4 0 3 (i := 0) (j := (i : Int)) (m := ((cap : Nat) : Int)) (by omega) (by omega) (by omega)
    refine a_op 2 rfl (by kernel_rfl) (fun w_ h_ => o_rsl2 (i := 0) (j := (i : Int)) (m := ((cap : Nat) : Int)) Try.underlying166 ti170 rfl (bounds_h (n := n) (cap := cap) (j := (i : Int)) (by omega) (by omega)) (by omega) (by omega) (by omega) ho22 hn19 hc20 ⟨rfl, rfl⟩) ?_
    refine a_op 3 rfl (by kernel_rfl) (fun w_ h_ => o_move (v := (.slice (some ⟨g, 0, none⟩) n cap)) rfl ⟨rfl, rfl⟩) ?_
    refine a_op 4 rfl (by kernel_rfl) (fun w_ h_ => o_move (v := (.int .i64 ((i : Int) + 1))) rfl ⟨rfl, rfl⟩) ?_
    obtain ⟨o23, n24, c25, ho29, hn26, hc27, hq28⟩ := rsl_ex4 0 3 (i := (i : Int) + 1) (j := ((n : Nat) : Int)) (m := ((cap : Nat) : Int)) (by omega) (by omega) (by omega)
    refine a_op 5 rfl (by kernel_rfl) (fun w_ h_ => o_rsl2 (i := (i : Int) + 1) (j := ((n : Nat) : Int)) (m := ((cap : Nat) : Int)) Try.underlying166 ti170 rfl (bounds_l (n := n) (cap := cap) (i := (i : Int) + 1) (by omega) (by omega)) (by omega) (by omega) (by omega) ho29 hn26 hc27 ⟨rfl, rfl⟩) ?_
    have hH30 : Has E { w with drawn := w.drawn + 1 } [] := hH15.first 0 rfl
    refine a_done (by kernel_rfl) hH30 ?_
    refine r_op 6 rfl (by kernel_rfl) (o_approom (ds := (c.toList.drop o23).take (n24 * 3)) Try.underlying166 ti170 rfl rfl (sl_raw (b := g) (o := o23) (sz := 3) (n := n24) (cap := c25) (c := c) (e := 170) (g := (0, 0)) (by omega) (by omega) (by omega)) hH15 sub_l (by omega) (by omega) (fun u hu => by exact h1 u (mem_part1 hu (by omega))) fun c31 w32 hz35 hc33 hH34 => ?_)
    refine r_op 7 rfl (by kernel_rfl) (o_assign (v := (.slice (some ⟨g, o16, none⟩) (n17 + n24) c18)) rfl ?_)
    refine Rest.done (by kernel_rfl) ?_
    refine t_norm (hK14 _ _ ?_)
    refine wp_seq_k fun K36 hK36 => ?_
    refine c_region ?_
    refine s_op (o_move (v := (.slice (some ⟨g, o16, none⟩) (n17 + n24) c18)) rfl ?_)
    refine s_op (o_move (v := (.slice (some ⟨g, o16, none⟩) (n17 + n24) c18)) rfl ?_)
    refine s_op (o_len Try.underlying166 rfl ?_)
    refine s_op (o_move (v := (.int .i64 (n : Int))) rfl ?_)
    obtain ⟨o37, n38, c39, ho43, hn40, hc41, hq42⟩ := rsl_ex4 o16 3 (i := ((n17 + n24) : Int)) (j := (n : Int)) (m := ((c18 : Nat) : Int)) (by omega) (by omega) (by omega)
    refine s_op (o_rsl2 (i := ((n17 + n24) : Int)) (j := (n : Int)) (m := ((c18 : Nat) : Int)) Try.underlying166 ti170 rfl (bounds_lh (n := (n17 + n24)) (cap := c18) (i := ((n17 + n24) : Int)) (j := (n : Int)) (by omega) (by omega) (by omega)) (by omega) (by omega) (by omega) ho43 hn40 hc41 ?_)
    refine s_eff (o_clear Try.underlying166 ti170 rfl rfl hH34 (by omega) (fun u hu => by (have h_ : u ∈ ([(S ([] : List UInt8)), (.bool false), (.int .i64 0)] : List Value) := by simpa [Value.cells, S] using hu); simp only [List.mem_cons, List.not_mem_nil, or_false] at h_; rcases h_ with rfl | rfl | rfl <;> rfl) fun c44 w45 v46 hc47 hc48 hH49 => ?_)
    refine s_nil ?_
    refine t_norm (hK36 _ _ ?_)
    refine wp_seq_k fun K50 hK50 => ?_
    refine c_region ?_
    refine s_op (o_move (v := (.slice (some ⟨g, o16, none⟩) (n17 + n24) c18)) rfl ?_)
    refine s_op (o_assign (v := (.slice (some ⟨g, o16, none⟩) (n17 + n24) c18)) rfl ?_)
    refine s_nil ?_
    refine t_norm (hK50 _ _ ?_)
    refine wp_ret ?_
    refine c_ret1 Try.results166  (v := (.slice (some ⟨g, o16, none⟩) (n17 + n24) c18)) rfl ?_
    refine ⟨_, _, rfl, ⟨?_, .inr ⟨g, c18, c44, by rw [show (n17 + n24) = n - 1 from by omega, show (o16 : Nat) = 0 from by omega], rfl, by omega, by simp only [maxLen]; omega, by have h_ := hc47; simp only [Array.length_toList] at h_; omega, ?_⟩⟩, hH49⟩
    · simp only [List.length_append, List.length_drop, List.length_take, Array.length_toList]; omega
    · exact del_lawS hc33 hc48 (by omega) (by omega) (by omega) (by omega) hi (by simp only [Array.length_toList]; omega)
theorem pdel_own {E w : World} {R hs : List Hp} {v : Value} {l : List Plc} (i : Nat) (hi : i < l.length) (hH : Has E w [hs, R]) (ho : Own 170 3 v l.length (l.flatMap plC) hs) (hl : l.length ≤ 1000000) :
    Calls Try.prog 166 #[v, (.int .i64 (i : Int)), (.int .i64 ((i : Int) + 1))] w fun e w' => ∃ v' hs', e = .returned v' ∧ Own 170 3 v' (l.take i ++ l.drop (i + 1)).length ((l.take i ++ l.drop (i + 1)).flatMap plC) hs' ∧ Has E w' [hs', R] := by
  obtain ⟨e1, ⟨rfl, h0, rfl⟩ | ⟨b, cap, cur, rfl, rfl, hnc, hcm, hsz, ht⟩⟩ := ho
  · omega
  · have hcm' : cap ≤ 9223372036854775807 := by simpa [maxLen] using hcm
    refine (pdel_blk b l.length cap i cur hH hi hnc hcm' hsz (by rw [ht]; exact one_plC l)).mono ?_
    rintro e w' ⟨v', hs', rfl, hO, hX⟩
    refine ⟨v', hs', rfl, ?_, hX⟩
    rw [del_listF plC_len hi ht] at hO
    have e4 : (l.take i ++ l.drop (i + 1)).length = l.length - 1 := by simp only [List.length_append, List.length_take, List.length_drop]; omega
    rw [e4]; exact hO
end Go.Q
namespace Go.Q
open Go.Proofs
set_option linter.unusedVariables false
set_option maxRecDepth 100000
attribute [local irreducible] wpList OK Code.wp
set_option maxHeartbeats 4000000 in
theorem waitf_c {E w : World} {R : List Hp} {q : Plc} {bb : Nat}  {eb : Nat} {v : Ent}  (hH : Has E w [R]) (h_bb : CellsAt R bb 0 [(.pointer (some ⟨eb, 0, none⟩))]) (h_eb : EntRd R eb v) :
    Calls Try.prog 128 #[(.agg #[(S q.key), (.bool q.wr), (.int .i64 q.own)]), (.pointer (some ⟨bb, 0, none⟩))] w fun e w' => e = .returned (.bool (noAt v.hold q)) ∧ Has E w' [R] := by
  obtain ⟨x1, x2, hc5, f3, f4⟩ := h_eb
  have f3_n := f3.le
  have f4_n := f4.le
  refine c_enter (args := [(.agg #[(S q.key), (.bool q.wr), (.int .i64 q.own)]), (.pointer (some ⟨bb, 0, none⟩))]) Try.func128 rfl Try.ntmps128 (by simp) ?_
  refine wp_seq_k fun K6 hK6 => ?_
  refine c_region ?_
  refine s_op (o_box (cs := #[(S q.key), (.bool q.wr), (.int .i64 q.own)]) rfl rfl hH fun b7 w8 hH9 => ?_)
  refine s_op (o_assign (v := (.bool false)) rfl ?_)
  refine s_nil ?_
  refine t_norm (hK6 _ _ ?_)
  refine wp_seq_k fun K10 hK10 => ?_
  refine Rest.region mixed (by kernel_rfl) ?_
  have hH11 : Has E { w8 with drawn := w8.drawn + 1 } [[Hp.one b7 (.cells #[(S q.key), (.bool q.wr), (.int .i64 q.own)] 170 (0, 0))], R] := Has0.drew hH9 _
  refine Rest.phaseA (fun w_ => Has E w_ [[Hp.one b7 (.cells #[(S q.key), (.bool q.wr), (.int .i64 q.own)] 170 (0, 0))], R]) 0 6 6 rfl (by decide) (by kernel_rfl) ?_
  refine a_op 0 rfl (by kernel_rfl) (fun w_ h_ => o_load1 (v := (.pointer (some ⟨eb, 0, none⟩))) Try.underlying165 rfl rfl h_ (seg_sub 1 rfl) h_bb ⟨rfl, rfl⟩) ?_
  refine a_op 1 rfl (by kernel_rfl) (fun w_ h_ => o_nilCheck rfl ⟨rfl, rfl⟩) ?_
  refine a_op 2 rfl (by kernel_rfl) (fun w_ h_ => o_fieldAddr (k := 0) (fun _ => by kernel_rfl) rfl ⟨rfl, rfl⟩) ?_
  refine a_op 3 rfl (by kernel_rfl) (fun w_ h_ => o_load1 (v := x1) Try.underlying166 rfl rfl h_ (seg_sub 1 rfl) (CellsAt.field (k := 0) (ds := [x1]) hc5 rfl) ⟨rfl, rfl⟩) ?_
  refine a_op 4 rfl (by kernel_rfl) (fun w_ h_ => o_fieldAddr (k := 2) (fun _ => by kernel_rfl) rfl ⟨rfl, rfl⟩) ?_
  refine a_op 5 rfl (by kernel_rfl) (fun w_ h_ => o_load1 (v := (.int .i64 q.own)) Try.underlying3 rfl rfl h_ (seg_sub 0 rfl) (CellsAt.one rfl) ⟨rfl, rfl⟩) ?_
  refine a_done (by kernel_rfl) hH11 ?_
  refine r_op 6 rfl (by kernel_rfl) (o_callf (vs := #[x1, (.int .i64 q.own)]) ca90 rfl (args2 rfl rfl) (at_c (l := v.hold) (o := q.own) hH11.all (f3.mono (seg_sub 1 rfl))) ?_)
  rintro _ w14 ⟨rfl, hX12⟩
  refine ⟨_, rfl, ?_⟩
  have hH13 := hX12.of_all
  have := atS_lt v.hold q.own
  refine r_op 7 rfl (by kernel_rfl) (o_lss (a := atS v.hold q.own) (b := 0) rfl rfl ?_)
  refine r_op 8 rfl (by kernel_rfl) (o_assign (v := (.bool (decide (atS v.hold q.own < 0)))) rfl ?_)
  refine Rest.done (by kernel_rfl) ?_
  refine t_norm (hK10 _ _ ?_)
  refine wp_ret ?_
  refine c_ret1 Try.results128  (v := (.bool (decide (atS v.hold q.own < 0)))) rfl ?_
  have q15 : noAt v.hold q = decide (atS v.hold q.own < 0) := by rfl
  have hH16 : Has E w14 [R] := (hH13.front 1 rfl).first 1 rfl
  exact ⟨by rw [q15], hH16⟩
set_option maxHeartbeats 4000000 in
theorem wait_c {E w : World} {R : List Hp} {eb : Nat} {sg_eb : List Hp} {v : Ent} {p : Plc}  (hH : Has E w [sg_eb, R]) (h_eb : EntAt eb sg_eb v) (hn : v.line.length ≤ 1000000) :
    Calls Try.prog 93 #[(.pointer (some ⟨eb, 0, none⟩)), (.agg #[(S p.key), (.bool p.wr), (.int .i64 p.own)])] w fun e w' => ∃ (sg_eb' : List Hp), e = .returned (.tuple #[]) ∧ (EntAt eb sg_eb' (⟨v.hold, waitS v.hold v.line p⟩ : Ent)) ∧ Has E w' [sg_eb', R] := by
  have ha_ := atS_lt v.hold p.own
  have hi_ := idxG_lt (noAt v.hold) v.line
  have hli : lineS v.hold v.line = idxG (noAt v.hold) v.line := rfl
  obtain ⟨x1, x2, s3, s4, rfl, f5, f6⟩ := h_eb
  have hH7 : Has E w [[Hp.one eb (.cells #[x1, x2] 168 (0, 0))], s3, s4, R] := Has.op3 hH
  refine c_enter (args := [(.pointer (some ⟨eb, 0, none⟩)), (.agg #[(S p.key), (.bool p.wr), (.int .i64 p.own)])]) Try.func93 rfl Try.ntmps93 (by simp) ?_
  refine wp_seq_k fun K8 hK8 => ?_
  refine c_region ?_
  refine s_op (o_box (cs := #[(.pointer (some ⟨eb, 0, none⟩))]) rfl rfl hH7 fun b9 w10 hH11 => ?_)
  refine s_op (o_box (cs := #[(S p.key), (.bool p.wr), (.int .i64 p.own)]) rfl rfl hH11 fun b12 w13 hH14 => ?_)
  refine s_nil ?_
  refine t_norm (hK8 _ _ ?_)
  refine wp_seq_k fun K15 hK15 => ?_
  refine wp_seq_k fun K16 hK16 => ?_
  refine Rest.region mixed (by kernel_rfl) ?_
  have hH17 : Has E { w13 with drawn := w13.drawn + 1 } [[Hp.one b12 (.cells #[(S p.key), (.bool p.wr), (.int .i64 p.own)] 170 (0, 0))], [Hp.one b9 (.cells #[(.pointer (some ⟨eb, 0, none⟩))] 165 (0, 0))], [Hp.one eb (.cells #[x1, x2] 168 (0, 0))], s3, s4, R] := Has0.drew hH14 _
  refine Rest.phaseA (fun w_ => Has E w_ [[Hp.one b12 (.cells #[(S p.key), (.bool p.wr), (.int .i64 p.own)] 170 (0, 0))], [Hp.one b9 (.cells #[(.pointer (some ⟨eb, 0, none⟩))] 165 (0, 0))], [Hp.one eb (.cells #[x1, x2] 168 (0, 0))]]) 0 6 6 rfl (by decide) (by kernel_rfl) ?_
  refine a_op 0 rfl (by kernel_rfl) (fun w_ h_ => o_load1 (v := (.pointer (some ⟨eb, 0, none⟩))) Try.underlying165 rfl rfl h_ (seg_sub 1 rfl) (CellsAt.one rfl) ⟨rfl, rfl⟩) ?_
  refine a_op 1 rfl (by kernel_rfl) (fun w_ h_ => o_nilCheck rfl ⟨rfl, rfl⟩) ?_
  refine a_op 2 rfl (by kernel_rfl) (fun w_ h_ => o_fieldAddr (k := 0) (fun _ => by kernel_rfl) rfl ⟨rfl, rfl⟩) ?_
  refine a_op 3 rfl (by kernel_rfl) (fun w_ h_ => o_load1 (v := x1) Try.underlying166 rfl rfl h_ (seg_sub 2 rfl) (CellsAt.one rfl) ⟨rfl, rfl⟩) ?_
  refine a_op 4 rfl (by kernel_rfl) (fun w_ h_ => o_fieldAddr (k := 2) (fun _ => by kernel_rfl) rfl ⟨rfl, rfl⟩) ?_
  refine a_op 5 rfl (by kernel_rfl) (fun w_ h_ => o_load1 (v := (.int .i64 p.own)) Try.underlying3 rfl rfl h_ (seg_sub 0 rfl) (CellsAt.one rfl) ⟨rfl, rfl⟩) ?_
  have hH18 : Has E { w13 with drawn := w13.drawn + 1 } [[Hp.one b12 (.cells #[(S p.key), (.bool p.wr), (.int .i64 p.own)] 170 (0, 0))], [Hp.one b9 (.cells #[(.pointer (some ⟨eb, 0, none⟩))] 165 (0, 0))], [Hp.one eb (.cells #[x1, x2] 168 (0, 0))]] := (((hH17.front 2 rfl).front 2 rfl).front 2 rfl).first 3 rfl
  refine a_done (by kernel_rfl) hH18 ?_
  refine r_op 6 rfl (by kernel_rfl) (o_callf (vs := #[x1, (.int .i64 p.own)]) ca90 rfl (args2 rfl rfl) (at_c (l := v.hold) (o := p.own) hH17.all (f5.sl.mono (seg_sub 3 rfl))) ?_)
  rintro _ w21 ⟨rfl, hX19⟩
  refine ⟨_, rfl, ?_⟩
  have hH20 := hX19.of_all
  have := atS_lt v.hold p.own
  refine r_op 7 rfl (by kernel_rfl) (o_lss (a := atS v.hold p.own) (b := 0) rfl rfl ?_)
  refine Rest.done (by kernel_rfl) ?_
  refine t_norm (hK16 _ _ ?_)
  refine c_cond rfl (fun h22 => ?_) (fun h22 => ?_)
  · -- atS v.hold p.own < 0
    refine wp_seq_k fun K23 hK23 => ?_
    refine Rest.region mixed (by kernel_rfl) ?_
    have hH24 : Has E { w21 with drawn := w21.drawn + 1 } [[Hp.one b12 (.cells #[(S p.key), (.bool p.wr), (.int .i64 p.own)] 170 (0, 0))], [Hp.one b9 (.cells #[(.pointer (some ⟨eb, 0, none⟩))] 165 (0, 0))], [Hp.one eb (.cells #[x1, x2] 168 (0, 0))], s3, s4, R] := Has0.drew hH20 _
    refine Rest.phaseA (fun w_ => Has E w_ [[Hp.one b12 (.cells #[(S p.key), (.bool p.wr), (.int .i64 p.own)] 170 (0, 0))], [Hp.one b9 (.cells #[(.pointer (some ⟨eb, 0, none⟩))] 165 (0, 0))], [Hp.one eb (.cells #[x1, x2] 168 (0, 0))]]) 0 8 8 rfl (by decide) (by kernel_rfl) ?_
    refine a_op 0 rfl (by kernel_rfl) (fun w_ h_ => o_load1 (v := (.pointer (some ⟨eb, 0, none⟩))) Try.underlying165 rfl rfl h_ (seg_sub 1 rfl) (CellsAt.one rfl) ⟨rfl, rfl⟩) ?_
    refine a_op 1 rfl (by kernel_rfl) (fun w_ h_ => o_load1 (v := (.pointer (some ⟨eb, 0, none⟩))) Try.underlying165 rfl rfl h_ (seg_sub 1 rfl) (CellsAt.one rfl) ⟨rfl, rfl⟩) ?_
    refine a_op 2 rfl (by kernel_rfl) (fun w_ h_ => o_nilCheck rfl ⟨rfl, rfl⟩) ?_
    refine a_op 3 rfl (by kernel_rfl) (fun w_ h_ => o_fieldAddr (k := 1) (fun _ => by kernel_rfl) rfl ⟨rfl, rfl⟩) ?_
    refine a_op 4 rfl (by kernel_rfl) (fun w_ h_ => o_load1 (v := x2) Try.underlying166 rfl rfl h_ (seg_sub 2 rfl) (CellsAt.one rfl) ⟨rfl, rfl⟩) ?_
    refine a_op 5 rfl (by kernel_rfl) (fun w_ h_ => o_loadN (cs := [(S p.key), (.bool p.wr), (.int .i64 p.own)]) Try.underlying170 rfl ti170 rfl h_ (seg_sub 0 rfl) (CellsAt.one rfl) ⟨rfl, rfl⟩) ?_
    have hH25 : Has E { w21 with drawn := w21.drawn + 1 } [[Hp.one b12 (.cells #[(S p.key), (.bool p.wr), (.int .i64 p.own)] 170 (0, 0))], [Hp.one b9 (.cells #[(.pointer (some ⟨eb, 0, none⟩))] 165 (0, 0))], [Hp.one eb (.cells #[x1, x2] 168 (0, 0))]] := (((hH24.front 2 rfl).front 2 rfl).front 2 rfl).first 3 rfl
    refine a_w 6 rfl (by kernel_rfl) hH25 (o_buildSlice (ps := #[(0, (.agg #[(S p.key), (.bool p.wr), (.int .i64 p.own)]))]) (cells := #[(S p.key), (.bool p.wr), (.int .i64 p.own)]) Try.underlying166 ti170 (by decide) (parts1 rfl) (by kernel_rfl) hH24 fun b26 w27 hH28 => ?_)
    have hH29 : Has E w27 [[Hp.one b12 (.cells #[(S p.key), (.bool p.wr), (.int .i64 p.own)] 170 (0, 0))], [Hp.one b9 (.cells #[(.pointer (some ⟨eb, 0, none⟩))] 165 (0, 0))], [Hp.one eb (.cells #[x1, x2] 168 (0, 0))]] := (((hH28.front 3 rfl).front 3 rfl).front 3 rfl).first 3 rfl
    refine a_w 7 rfl (by kernel_rfl) hH29 (o_append Try.underlying166 ti170 rfl (by decide) rfl f6 rfl (sl_litF (f := plC) (l := [p]) plC_len rfl rfl (by simp)) (hH28.front 5 rfl) (seg_sub 0 rfl) (one_plC _) (by simp; omega) (by simp; omega) fun v30 s31 w33 ho32 hH34 => ?_)
    have ho32 : Own 170 3 v30 (v.line ++ [p]).length ((v.line ++ [p]).flatMap plC) s31 := ho32.appF
    have hH35 : Has E w33 [[Hp.one b12 (.cells #[(S p.key), (.bool p.wr), (.int .i64 p.own)] 170 (0, 0))], [Hp.one b9 (.cells #[(.pointer (some ⟨eb, 0, none⟩))] 165 (0, 0))], [Hp.one eb (.cells #[x1, x2] 168 (0, 0))]] := (((hH34.front 4 rfl).front 4 rfl).front 4 rfl).first 3 rfl
    refine a_done (by kernel_rfl) hH35 ?_
    refine r_op 8 rfl (by kernel_rfl) (o_nilCheck rfl ?_)
    refine r_op 9 rfl (by kernel_rfl) (o_fieldAddr (k := 1) (fun _ => by kernel_rfl) rfl ?_)
    refine r_eff 10 rfl (by kernel_rfl) (o_store1 (c' := #[x1, v30]) ti166 rfl rfl ho32.one (by simp) rfl (hH34.front 4 rfl) fun w36 hH37 => ?_)
    refine Rest.done (by kernel_rfl) ?_
    refine t_norm (hK23 _ _ ?_)
    refine wp_ret ?_
    refine t_ret (c_ret0 Try.results93  ?_)
    have hH38 : Has E w36 [([Hp.one eb (.cells #[x1, v30] 168 (0, 0))] ++ (s3 ++ s31)), [Hp.one b26 (.cells #[(S p.key), (.bool p.wr), (.int .i64 p.own)] 170 (0, 0))], [Hp.one b12 (.cells #[(S p.key), (.bool p.wr), (.int .i64 p.own)] 170 (0, 0))], [Hp.one b9 (.cells #[(.pointer (some ⟨eb, 0, none⟩))] 165 (0, 0))], R] := Has.cl3 (((hH37.front 1 rfl).front 5 rfl).front 2 rfl)
    have hd39 : EntAt eb ([Hp.one eb (.cells #[x1, v30] 168 (0, 0))] ++ (s3 ++ s31)) (⟨v.hold, v.line ++ [p]⟩ : Ent) := EntAt.mk f5 ho32
    have q40 : (⟨v.hold, waitS v.hold v.line p⟩ : Ent) = (⟨v.hold, v.line ++ [p]⟩ : Ent) := by unfold waitS; rw [if_pos h22]
    have hH41 : Has E w36 [([Hp.one eb (.cells #[x1, v30] 168 (0, 0))] ++ (s3 ++ s31)), R] := ((hH38.front 4 rfl).front 1 rfl).first 2 rfl
    exact ⟨_, rfl, (by rw [q40]; exact hd39), hH41⟩
  · -- not: atS v.hold p.own < 0
    refine wp_skip ?_
    refine t_norm (hK15 _ _ ?_)
    refine wp_seq_k fun K42 hK42 => ?_
    refine c_region ?_
    refine s_op (o_load1 (v := (.pointer (some ⟨eb, 0, none⟩))) Try.underlying165 rfl rfl hH20 (seg_sub 1 rfl) (CellsAt.one rfl) ?_)
    refine s_op (o_nilCheck rfl ?_)
    refine s_op (o_fieldAddr (k := 1) (fun _ => by kernel_rfl) rfl ?_)
    refine s_op (o_load1 (v := x2) Try.underlying166 rfl rfl hH20 (seg_sub 2 rfl) (CellsAt.one rfl) ?_)
    refine s_op (o_makeFunc (vs := #[(.pointer (some ⟨b9, 0, none⟩))]) (cap1 rfl) ?_)
    refine s_op (o_callf (vs := #[x2, (.func (.func 128) #[] #[(.pointer (some ⟨b9, 0, none⟩))])]) ca125 rfl (args2 rfl rfl) (pindexf_c (l := v.line) (c := noAt v.hold) (va := fun v_ => #[v_, (.pointer (some ⟨b9, 0, none⟩))]) hH20.all (f6.sl.mono (seg_sub 4 rfl)) ca128 (fun _ => by simp) (fun F_ x_ h_ => Calls.frameF (waitf_c (q := x_) (v := v) h_.all ((CellsAt.one rfl).mono (fun _ g_ => sub_l ((seg_sub 1 rfl) g_))) (EntRd.mono (EntRd.mk (v := v) ((CellsAt.one rfl).mono (seg_sub 2 rfl)) (f5.sl.mono (seg_sub 3 rfl)) (f6.sl.mono (seg_sub 4 rfl))) (fun _ g_ => sub_l g_))))) ?_)
    rintro _ w45 ⟨rfl, hX43⟩
    refine ⟨_, rfl, ?_⟩
    have hH44 := hX43.of_all
    refine s_op (o_assign (v := (.int .i64 (idxG (noAt v.hold) v.line))) rfl ?_)
    refine s_nil ?_
    refine t_norm (hK42 _ _ ?_)
    refine wp_seq_k fun K46 hK46 => ?_
    refine wp_seq_k fun K47 hK47 => ?_
    refine c_region ?_
    refine s_op (o_move (v := (.int .i64 (idxG (noAt v.hold) v.line))) rfl ?_)
    refine s_op (o_lss (a := idxG (noAt v.hold) v.line) (b := 0) rfl rfl ?_)
    refine s_nil ?_
    refine t_norm (hK47 _ _ ?_)
    refine c_cond rfl (fun h48 => ?_) (fun h48 => ?_)
    · -- idxG (noAt v.hold) v.line < 0
      refine c_region ?_
      refine s_op (o_load1 (v := (.pointer (some ⟨eb, 0, none⟩))) Try.underlying165 rfl rfl hH44 (seg_sub 1 rfl) (CellsAt.one rfl) ?_)
      refine s_op (o_nilCheck rfl ?_)
      refine s_op (o_fieldAddr (k := 1) (fun _ => by kernel_rfl) rfl ?_)
      refine s_op (o_load1 (v := x2) Try.underlying166 rfl rfl hH44 (seg_sub 2 rfl) (CellsAt.one rfl) ?_)
      refine s_op (o_lenS Try.underlying166 rfl f6.sl ?_)
      refine s_op (o_assign (v := (.int .i64 ((v.line.length : Nat) : Int))) rfl ?_)
      refine s_nil ?_
      refine t_norm (hK46 _ _ ?_)
      refine Rest.region mixed (by kernel_rfl) ?_
      have hH49 : Has E { w45 with drawn := w45.drawn + 1 } [[Hp.one b12 (.cells #[(S p.key), (.bool p.wr), (.int .i64 p.own)] 170 (0, 0))], [Hp.one b9 (.cells #[(.pointer (some ⟨eb, 0, none⟩))] 165 (0, 0))], [Hp.one eb (.cells #[x1, x2] 168 (0, 0))], s3, s4, R] := Has0.drew hH44 _
      refine Rest.phaseA (fun w_ => Has E w_ [[Hp.one b12 (.cells #[(S p.key), (.bool p.wr), (.int .i64 p.own)] 170 (0, 0))], [Hp.one b9 (.cells #[(.pointer (some ⟨eb, 0, none⟩))] 165 (0, 0))], [Hp.one eb (.cells #[x1, x2] 168 (0, 0))]]) 0 9 9 rfl (by decide) (by kernel_rfl) ?_
      refine a_op 0 rfl (by kernel_rfl) (fun w_ h_ => o_load1 (v := (.pointer (some ⟨eb, 0, none⟩))) Try.underlying165 rfl rfl h_ (seg_sub 1 rfl) (CellsAt.one rfl) ⟨rfl, rfl⟩) ?_
      refine a_op 1 rfl (by kernel_rfl) (fun w_ h_ => o_load1 (v := (.pointer (some ⟨eb, 0, none⟩))) Try.underlying165 rfl rfl h_ (seg_sub 1 rfl) (CellsAt.one rfl) ⟨rfl, rfl⟩) ?_
      refine a_op 2 rfl (by kernel_rfl) (fun w_ h_ => o_nilCheck rfl ⟨rfl, rfl⟩) ?_
      refine a_op 3 rfl (by kernel_rfl) (fun w_ h_ => o_fieldAddr (k := 1) (fun _ => by kernel_rfl) rfl ⟨rfl, rfl⟩) ?_
      refine a_op 4 rfl (by kernel_rfl) (fun w_ h_ => o_load1 (v := x2) Try.underlying166 rfl rfl h_ (seg_sub 2 rfl) (CellsAt.one rfl) ⟨rfl, rfl⟩) ?_
      refine a_op 5 rfl (by kernel_rfl) (fun w_ h_ => o_move (v := (.int .i64 ((v.line.length : Nat) : Int))) rfl ⟨rfl, rfl⟩) ?_
      refine a_op 6 rfl (by kernel_rfl) (fun w_ h_ => o_loadN (cs := [(S p.key), (.bool p.wr), (.int .i64 p.own)]) Try.underlying170 rfl ti170 rfl h_ (seg_sub 0 rfl) (CellsAt.one rfl) ⟨rfl, rfl⟩) ?_
      have hH50 : Has E { w45 with drawn := w45.drawn + 1 } [[Hp.one b12 (.cells #[(S p.key), (.bool p.wr), (.int .i64 p.own)] 170 (0, 0))], [Hp.one b9 (.cells #[(.pointer (some ⟨eb, 0, none⟩))] 165 (0, 0))], [Hp.one eb (.cells #[x1, x2] 168 (0, 0))]] := (((hH49.front 2 rfl).front 2 rfl).front 2 rfl).first 3 rfl
      refine a_w 7 rfl (by kernel_rfl) hH50 (o_buildSlice (ps := #[(0, (.agg #[(S p.key), (.bool p.wr), (.int .i64 p.own)]))]) (cells := #[(S p.key), (.bool p.wr), (.int .i64 p.own)]) Try.underlying166 ti170 (by decide) (parts1 rfl) (by kernel_rfl) hH49 fun b51 w52 hH53 => ?_)
      have hH54 : Has E w52 [[Hp.one b12 (.cells #[(S p.key), (.bool p.wr), (.int .i64 p.own)] 170 (0, 0))], [Hp.one b9 (.cells #[(.pointer (some ⟨eb, 0, none⟩))] 165 (0, 0))], [Hp.one eb (.cells #[x1, x2] 168 (0, 0))]] := (((hH53.front 3 rfl).front 3 rfl).front 3 rfl).first 3 rfl
      obtain ⟨ni58, hni58⟩ : ∃ n_ : Nat, ((v.line.length : Nat) : Int) = (n_ : Int) := ⟨(((v.line.length : Nat) : Int)).toNat, by omega⟩
      refine a_w 8 rfl (by kernel_rfl) hH54 (o_callf (vs := #[x2, (.int .i64 ((v.line.length : Nat) : Int)), (.slice (some ⟨b51, 0, none⟩) 1 1)]) ca129 rfl (args3 rfl rfl rfl) ((by rw [hni58]; exact pins_own (l := v.line) (x := p) ni58 (by omega) (hH53.front 5 rfl).all2 f6 (by omega))) ?_)
      rintro _ w61 ⟨v55, s56, rfl, ho57, hX59⟩
      refine ⟨_, rfl, ?_⟩
      have hH60 : Has E w61 [s56, [Hp.one b12 (.cells #[(S p.key), (.bool p.wr), (.int .i64 p.own)] 170 (0, 0))], [Hp.one b9 (.cells #[(.pointer (some ⟨eb, 0, none⟩))] 165 (0, 0))], [Hp.one eb (.cells #[x1, x2] 168 (0, 0))], s3, R] := hX59.of_all1
      have hH62 : Has E w61 [[Hp.one b12 (.cells #[(S p.key), (.bool p.wr), (.int .i64 p.own)] 170 (0, 0))], [Hp.one b9 (.cells #[(.pointer (some ⟨eb, 0, none⟩))] 165 (0, 0))], [Hp.one eb (.cells #[x1, x2] 168 (0, 0))]] := (((hH60.front 3 rfl).front 3 rfl).front 3 rfl).first 3 rfl
      refine a_done (by kernel_rfl) hH62 ?_
      refine r_op 9 rfl (by kernel_rfl) (o_nilCheck rfl ?_)
      refine r_op 10 rfl (by kernel_rfl) (o_fieldAddr (k := 1) (fun _ => by kernel_rfl) rfl ?_)
      refine r_eff 11 rfl (by kernel_rfl) (o_store1 (c' := #[x1, v55]) ti166 rfl rfl ho57.one (by simp) rfl (hH60.front 3 rfl) fun w63 hH64 => ?_)
      refine Rest.done (by kernel_rfl) ?_
      refine c_end0 Try.results93  ?_
      have hH65 : Has E w63 [([Hp.one eb (.cells #[x1, v55] 168 (0, 0))] ++ (s3 ++ s56)), [Hp.one b12 (.cells #[(S p.key), (.bool p.wr), (.int .i64 p.own)] 170 (0, 0))], [Hp.one b9 (.cells #[(.pointer (some ⟨eb, 0, none⟩))] 165 (0, 0))], R] := Has.cl3 (((hH64.front 1 rfl).front 4 rfl).front 2 rfl)
      have hd66 : EntAt eb ([Hp.one eb (.cells #[x1, v55] 168 (0, 0))] ++ (s3 ++ s56)) (⟨v.hold, (insAt v.line ni58 p)⟩ : Ent) := EntAt.mk f5 ho57
      have q67 : (⟨v.hold, waitS v.hold v.line p⟩ : Ent) = (⟨v.hold, (insAt v.line ni58 p)⟩ : Ent) := by unfold waitS; rw [if_neg h22, hli, if_pos h48]; obtain rfl : ni58 = v.line.length := (by omega); simp [insAt]
      have hH68 : Has E w63 [([Hp.one eb (.cells #[x1, v55] 168 (0, 0))] ++ (s3 ++ s56)), R] := ((hH65.front 3 rfl).front 1 rfl).first 2 rfl
      exact ⟨_, rfl, (by rw [q67]; exact hd66), hH68⟩
    · -- not: idxG (noAt v.hold) v.line < 0
      refine wp_skip ?_
      refine t_norm (hK46 _ _ ?_)
      refine Rest.region mixed (by kernel_rfl) ?_
      have hH69 : Has E { w45 with drawn := w45.drawn + 1 } [[Hp.one b12 (.cells #[(S p.key), (.bool p.wr), (.int .i64 p.own)] 170 (0, 0))], [Hp.one b9 (.cells #[(.pointer (some ⟨eb, 0, none⟩))] 165 (0, 0))], [Hp.one eb (.cells #[x1, x2] 168 (0, 0))], s3, s4, R] := Has0.drew hH44 _
      refine Rest.phaseA (fun w_ => Has E w_ [[Hp.one b12 (.cells #[(S p.key), (.bool p.wr), (.int .i64 p.own)] 170 (0, 0))], [Hp.one b9 (.cells #[(.pointer (some ⟨eb, 0, none⟩))] 165 (0, 0))], [Hp.one eb (.cells #[x1, x2] 168 (0, 0))]]) 0 9 9 rfl (by decide) (by kernel_rfl) ?_
      refine a_op 0 rfl (by kernel_rfl) (fun w_ h_ => o_load1 (v := (.pointer (some ⟨eb, 0, none⟩))) Try.underlying165 rfl rfl h_ (seg_sub 1 rfl) (CellsAt.one rfl) ⟨rfl, rfl⟩) ?_
      refine a_op 1 rfl (by kernel_rfl) (fun w_ h_ => o_load1 (v := (.pointer (some ⟨eb, 0, none⟩))) Try.underlying165 rfl rfl h_ (seg_sub 1 rfl) (CellsAt.one rfl) ⟨rfl, rfl⟩) ?_
      refine a_op 2 rfl (by kernel_rfl) (fun w_ h_ => o_nilCheck rfl ⟨rfl, rfl⟩) ?_
      refine a_op 3 rfl (by kernel_rfl) (fun w_ h_ => o_fieldAddr (k := 1) (fun _ => by kernel_rfl) rfl ⟨rfl, rfl⟩) ?_
      refine a_op 4 rfl (by kernel_rfl) (fun w_ h_ => o_load1 (v := x2) Try.underlying166 rfl rfl h_ (seg_sub 2 rfl) (CellsAt.one rfl) ⟨rfl, rfl⟩) ?_
      refine a_op 5 rfl (by kernel_rfl) (fun w_ h_ => o_move (v := (.int .i64 (idxG (noAt v.hold) v.line))) rfl ⟨rfl, rfl⟩) ?_
      refine a_op 6 rfl (by kernel_rfl) (fun w_ h_ => o_loadN (cs := [(S p.key), (.bool p.wr), (.int .i64 p.own)]) Try.underlying170 rfl ti170 rfl h_ (seg_sub 0 rfl) (CellsAt.one rfl) ⟨rfl, rfl⟩) ?_
      have hH70 : Has E { w45 with drawn := w45.drawn + 1 } [[Hp.one b12 (.cells #[(S p.key), (.bool p.wr), (.int .i64 p.own)] 170 (0, 0))], [Hp.one b9 (.cells #[(.pointer (some ⟨eb, 0, none⟩))] 165 (0, 0))], [Hp.one eb (.cells #[x1, x2] 168 (0, 0))]] := (((hH69.front 2 rfl).front 2 rfl).front 2 rfl).first 3 rfl
      refine a_w 7 rfl (by kernel_rfl) hH70 (o_buildSlice (ps := #[(0, (.agg #[(S p.key), (.bool p.wr), (.int .i64 p.own)]))]) (cells := #[(S p.key), (.bool p.wr), (.int .i64 p.own)]) Try.underlying166 ti170 (by decide) (parts1 rfl) (by kernel_rfl) hH69 fun b71 w72 hH73 => ?_)
      have hH74 : Has E w72 [[Hp.one b12 (.cells #[(S p.key), (.bool p.wr), (.int .i64 p.own)] 170 (0, 0))], [Hp.one b9 (.cells #[(.pointer (some ⟨eb, 0, none⟩))] 165 (0, 0))], [Hp.one eb (.cells #[x1, x2] 168 (0, 0))]] := (((hH73.front 3 rfl).front 3 rfl).front 3 rfl).first 3 rfl
      obtain ⟨ni78, hni78⟩ : ∃ n_ : Nat, idxG (noAt v.hold) v.line = (n_ : Int) := ⟨(idxG (noAt v.hold) v.line).toNat, by omega⟩
      refine a_w 8 rfl (by kernel_rfl) hH74 (o_callf (vs := #[x2, (.int .i64 (idxG (noAt v.hold) v.line)), (.slice (some ⟨b71, 0, none⟩) 1 1)]) ca129 rfl (args3 rfl rfl rfl) ((by rw [hni78]; exact pins_own (l := v.line) (x := p) ni78 (by omega) (hH73.front 5 rfl).all2 f6 (by omega))) ?_)
      rintro _ w81 ⟨v75, s76, rfl, ho77, hX79⟩
      refine ⟨_, rfl, ?_⟩
      have hH80 : Has E w81 [s76, [Hp.one b12 (.cells #[(S p.key), (.bool p.wr), (.int .i64 p.own)] 170 (0, 0))], [Hp.one b9 (.cells #[(.pointer (some ⟨eb, 0, none⟩))] 165 (0, 0))], [Hp.one eb (.cells #[x1, x2] 168 (0, 0))], s3, R] := hX79.of_all1
      have hH82 : Has E w81 [[Hp.one b12 (.cells #[(S p.key), (.bool p.wr), (.int .i64 p.own)] 170 (0, 0))], [Hp.one b9 (.cells #[(.pointer (some ⟨eb, 0, none⟩))] 165 (0, 0))], [Hp.one eb (.cells #[x1, x2] 168 (0, 0))]] := (((hH80.front 3 rfl).front 3 rfl).front 3 rfl).first 3 rfl
      refine a_done (by kernel_rfl) hH82 ?_
      refine r_op 9 rfl (by kernel_rfl) (o_nilCheck rfl ?_)
      refine r_op 10 rfl (by kernel_rfl) (o_fieldAddr (k := 1) (fun _ => by kernel_rfl) rfl ?_)
      refine r_eff 11 rfl (by kernel_rfl) (o_store1 (c' := #[x1, v75]) ti166 rfl rfl ho77.one (by simp) rfl (hH80.front 3 rfl) fun w83 hH84 => ?_)
      refine Rest.done (by kernel_rfl) ?_
      refine c_end0 Try.results93  ?_
      have hH85 : Has E w83 [([Hp.one eb (.cells #[x1, v75] 168 (0, 0))] ++ (s3 ++ s76)), [Hp.one b12 (.cells #[(S p.key), (.bool p.wr), (.int .i64 p.own)] 170 (0, 0))], [Hp.one b9 (.cells #[(.pointer (some ⟨eb, 0, none⟩))] 165 (0, 0))], R] := Has.cl3 (((hH84.front 1 rfl).front 4 rfl).front 2 rfl)
      have hd86 : EntAt eb ([Hp.one eb (.cells #[x1, v75] 168 (0, 0))] ++ (s3 ++ s76)) (⟨v.hold, (insAt v.line ni78 p)⟩ : Ent) := EntAt.mk f5 ho77
      have q87 : (⟨v.hold, waitS v.hold v.line p⟩ : Ent) = (⟨v.hold, (insAt v.line ni78 p)⟩ : Ent) := by unfold waitS; rw [if_neg h22, hli, if_neg h48]; rw [hni78]; rfl
      have hH88 : Has E w83 [([Hp.one eb (.cells #[x1, v75] 168 (0, 0))] ++ (s3 ++ s76)), R] := ((hH85.front 3 rfl).front 1 rfl).first 2 rfl
      exact ⟨_, rfl, (by rw [q87]; exact hd86), hH88⟩
set_option maxHeartbeats 4000000 in
theorem grant_c {E w : World} {R : List Hp} {eb : Nat} {sg_eb : List Hp} {v : Ent}  (hH : Has E w [sg_eb, R]) (h_eb : EntAt eb sg_eb v) (hn : v.hold.length + v.line.length ≤ 1000000) :
    Calls Try.prog 132 #[(.pointer (some ⟨eb, 0, none⟩))] w fun e w' => ∃ (v1' : Value) (s2' : List Hp) (sg_eb' : List Hp), e = .returned v1' ∧ (Own 3 1 v1' ((grantS v.hold v.line).1).length (((grantS v.hold v.line).1).map iV) s2') ∧ (EntAt eb sg_eb' (grE v)) ∧ Has E w' [s2', sg_eb', R] := by
  obtain ⟨x1, x2, s3, s4, rfl, f5, f6⟩ := h_eb
  have hH7 : Has E w [[Hp.one eb (.cells #[x1, x2] 168 (0, 0))], s3, s4, R] := Has.op3 hH
  refine c_enter (args := [(.pointer (some ⟨eb, 0, none⟩))]) Try.func132 rfl Try.ntmps132 (by simp) ?_
  refine wp_seq_k fun K8 hK8 => ?_
  refine c_region ?_
  refine s_op (o_assign (v := (.slice none 0 0)) rfl ?_)
  refine s_nil ?_
  refine t_norm (hK8 _ _ ?_)
  refine wp_seq_k fun K9 hK9 => ?_
  refine c_region ?_
  refine s_op (o_assign (v := (.slice none 0 0)) rfl ?_)
  refine s_nil ?_
  refine t_norm (hK9 _ _ ?_)
  refine wp_seq_k fun K10 hK10 => ?_
  refine wp_block ?_
  have hH11 : Has E w [([Hp.one eb (.cells #[x1, x2] 168 (0, 0))] ++ (s3 ++ s4)), R] := Has.cl3 (((hH7.front 2 rfl).front 2 rfl).front 2 rfl)
  have hd12 : EntAt eb ([Hp.one eb (.cells #[x1, x2] 168 (0, 0))] ++ (s3 ++ s4)) v := EntAt.mk f5 f6
  let I14 : Nat → (Nat → Value) → World → Prop := fun n__ r__ w__ => ∃ (cur : Ent) (sge : List Hp) (vo : Value) (so : List Hp) (out : List Int), n__ = cur.line.length ∧ Has E w__ [so, sge, R] ∧ (Own 3 1 vo out.length (out.map iV) so) ∧ (EntAt eb sge cur) ∧ (grantS v.hold v.line = (out ++ (grantS cur.hold cur.line).1, (grantS cur.hold cur.line).2)) ∧ (cur.hold.length + cur.line.length ≤ v.hold.length + v.line.length ∧ out.length + cur.line.length ≤ v.line.length) ∧ r__ 0 = (.pointer (some ⟨eb, 0, none⟩)) ∧ r__ 2 = (.slice none 0 0) ∧ r__ 3 = vo
  have hH15 : Has E w [[], ([Hp.one eb (.cells #[x1, x2] 168 (0, 0))] ++ (s3 ++ s4)), R] := (Has.nil ((hH11.front 1 rfl).front 1 rfl)).first 3 rfl
  refine c_loop I14 _ ⟨v, ([Hp.one eb (.cells #[x1, x2] 168 (0, 0))] ++ (s3 ++ s4)), (.slice none 0 0), [], [], rfl, hH15, Own.nil 3 1, hd12, rfl, (by simp), rfl, rfl, rfl⟩ ?_
  rintro n_ r18 w16 ⟨cur, sge, vo, so, out, rfl, hH17, hoo, hge, hgr, hln, e13_0, e13_2, e13_3⟩
  obtain ⟨hln1, hln2⟩ := hln
  refine wp_seq_k fun K19 hK19 => ?_
  refine wp_seq_k fun K20 hK20 => ?_
  refine c_region ?_
  refine s_op (o_move (v := (.pointer (some ⟨eb, 0, none⟩))) e13_0 ?_)
  refine s_op (o_nilCheck rfl ?_)
  obtain ⟨x21, x22, s23, s24, rfl, f25, f26⟩ := hge
  have hH27 : Has E w16 [[Hp.one eb (.cells #[x21, x22] 168 (0, 0))], s23, s24, so, R] := Has.op3 (hH17.front 1 rfl)
  refine s_op (o_fieldAddr (k := 1) (fun _ => by kernel_rfl) rfl ?_)
  refine s_op (o_load1 (v := x22) Try.underlying166 rfl rfl hH27 (seg_sub 0 rfl) (CellsAt.one rfl) ?_)
  refine s_op (o_lenS Try.underlying166 rfl f26.sl ?_)
  refine s_op (o_gtr (a := ((cur.line.length : Nat) : Int)) (b := 0) rfl rfl ?_)
  refine s_op (o_move (v := (.bool (decide (0 < ((cur.line.length : Nat) : Int))))) rfl ?_)
  by_cases h28 : 0 < ((cur.line.length : Nat) : Int)
  · -- 0 < ((cur.line.length : Nat) : Int)
    refine s_on 11 rfl (congrArg Value.bool (decide_eq_true h28)) (o_move (v := (.pointer (some ⟨eb, 0, none⟩))) e13_0 ?_)
    refine s_on 11 rfl (congrArg Value.bool (decide_eq_true h28)) (o_move (v := (.pointer (some ⟨eb, 0, none⟩))) e13_0 ?_)
    refine s_on 11 rfl (congrArg Value.bool (decide_eq_true h28)) (o_nilCheck rfl ?_)
    refine s_on 11 rfl (congrArg Value.bool (decide_eq_true h28)) (o_fieldAddr (k := 1) (fun _ => by kernel_rfl) rfl ?_)
    refine s_on 11 rfl (congrArg Value.bool (decide_eq_true h28)) (o_load1 (v := x22) Try.underlying166 rfl rfl hH27 (seg_sub 0 rfl) (CellsAt.one rfl) ?_)
    obtain ⟨x32, hx33⟩ : ∃ x_, cur.line[((0 : Int)).toNat]? = some x_ := get_some (by omega)
    refine s_on 11 rfl (congrArg Value.bool (decide_eq_true h28)) (o_indexF plC_len Try.underlying166 ti170 rfl f26.sl rfl rfl (by omega) hx33 fun b29 o30 hc31 => ?_)
    refine s_on 11 rfl (congrArg Value.bool (decide_eq_true h28)) (o_loadN (cs := [(S x32.key), (.bool x32.wr), (.int .i64 x32.own)]) Try.underlying170 rfl ti170 rfl hH27 (seg_sub 2 rfl) hc31 ?_)
    refine s_on 11 rfl (congrArg Value.bool (decide_eq_true h28)) (o_callf (vs := #[(.pointer (some ⟨eb, 0, none⟩)), (.agg #[(S x32.key), (.bool x32.wr), (.int .i64 x32.own)])]) ca91 rfl (args2 rfl rfl) (free_c (v := cur) (p := x32) hH27.all (EntRd.mk (v := cur) ((CellsAt.one rfl).mono (seg_sub 0 rfl)) (f25.sl.mono (seg_sub 1 rfl)) (f26.sl.mono (seg_sub 2 rfl)))) ?_)
    rintro _ w36 ⟨rfl, hX34⟩
    refine ⟨_, rfl, ?_⟩
    have hH35 := hX34.of_all
    refine s_op (o_pick_t (u := (.bool (freeS cur.hold x32))) ((rfl : _ = _).trans (congrArg Value.bool (decide_eq_true h28))) rfl ?_)
    refine s_nil ?_
    refine t_norm (hK20 _ _ ?_)
    refine c_condb rfl (fun h37 => ?_) (fun h37 => ?_)
    · -- freeS cur.hold x32
      refine wp_skip ?_
      refine t_norm (hK19 _ _ ?_)
      refine wp_block ?_
      refine wp_seq_k fun K38 hK38 => ?_
      refine c_region ?_
      refine s_op (o_move (v := (.pointer (some ⟨eb, 0, none⟩))) e13_0 ?_)
      refine s_op (o_nilCheck rfl ?_)
      refine s_op (o_fieldAddr (k := 1) (fun _ => by kernel_rfl) rfl ?_)
      refine s_op (o_load1 (v := x22) Try.underlying166 rfl rfl hH35 (seg_sub 0 rfl) (CellsAt.one rfl) ?_)
      refine s_op (o_indexF plC_len Try.underlying166 ti170 rfl f26.sl rfl rfl (by omega) hx33 fun b39 o40 hc41 => ?_)
      refine s_op (o_loadN (cs := [(S x32.key), (.bool x32.wr), (.int .i64 x32.own)]) Try.underlying170 rfl ti170 rfl hH35 (seg_sub 2 rfl) hc41 ?_)
      refine s_op (o_alloc (cs := #[(S ([] : List UInt8)), (.bool false), (.int .i64 0)]) ti170 rfl hH35 fun b42 w43 hH44 => ?_)
      refine s_eff (o_storeN (vs := [(S x32.key), (.bool x32.wr), (.int .i64 x32.own)]) (c' := #[(S x32.key), (.bool x32.wr), (.int .i64 x32.own)]) ti170 rfl rfl rfl rfl (by intro u hu; simp only [List.mem_cons, List.not_mem_nil, or_false] at hu; rcases hu with rfl | rfl | rfl <;> first | rfl) (by simp) (by kernel_rfl) (hH44.front 0 rfl) fun w45 hH46 => ?_)
      refine s_nil ?_
      refine t_norm (hK38 _ _ ?_)
      refine wp_seq_k fun K47 hK47 => ?_
      refine c_region ?_
      refine s_op (o_move (v := (.pointer (some ⟨eb, 0, none⟩))) e13_0 ?_)
      refine s_op (o_move (v := (.pointer (some ⟨eb, 0, none⟩))) e13_0 ?_)
      refine s_op (o_nilCheck rfl ?_)
      refine s_op (o_fieldAddr (k := 1) (fun _ => by kernel_rfl) rfl ?_)
      refine s_op (o_load1 (v := x22) Try.underlying166 rfl rfl hH46 (seg_sub 1 rfl) (CellsAt.one rfl) ?_)
      refine s_op (o_callf (vs := #[x22, (.int .i64 0), (.int .i64 1)]) ca166 rfl (args3 rfl rfl rfl) (pdel_own (l := cur.line) 0 (by omega) (hH46.front 3 rfl).all1 f26 (by omega)) ?_)
      rintro _ w54 ⟨v48, s49, rfl, ho50, hX52⟩
      refine ⟨_, rfl, ?_⟩
      have hH53 : Has E w54 [s49, [Hp.one b42 (.cells #[(S x32.key), (.bool x32.wr), (.int .i64 x32.own)] 170 (0, 0))], [Hp.one eb (.cells #[x21, x22] 168 (0, 0))], s23, so, R] := hX52.of_all1
      have ho51 : Own 170 3 v48 (cur.line.drop 1).length ((cur.line.drop 1).flatMap plC) s49 := by simpa using ho50
      refine s_op (o_nilCheck rfl ?_)
      refine s_op (o_fieldAddr (k := 1) (fun _ => by kernel_rfl) rfl ?_)
      refine s_eff (o_store1 (c' := #[x21, v48]) ti166 rfl rfl ho51.one (by simp) rfl (hH53.front 2 rfl) fun w55 hH56 => ?_)
      refine s_nil ?_
      refine t_norm (hK47 _ _ ?_)
      refine wp_seq_k fun K57 hK57 => ?_
      refine c_region ?_
      refine s_op (o_move (v := (.pointer (some ⟨eb, 0, none⟩))) e13_0 ?_)
      refine s_op (o_loadN (cs := [(S x32.key), (.bool x32.wr), (.int .i64 x32.own)]) Try.underlying170 rfl ti170 rfl hH56 (seg_sub 2 rfl) (CellsAt.one rfl) ?_)
      have hH58 : Has E w55 [([Hp.one eb (.cells #[x21, v48] 168 (0, 0))] ++ (s23 ++ s49)), [Hp.one b42 (.cells #[(S x32.key), (.bool x32.wr), (.int .i64 x32.own)] 170 (0, 0))], so, R] := Has.cl3 (((hH56.front 1 rfl).front 3 rfl).front 2 rfl)
      have hd59 : EntAt eb ([Hp.one eb (.cells #[x21, v48] 168 (0, 0))] ++ (s23 ++ s49)) (⟨cur.hold, (cur.line.drop 1)⟩ : Ent) := EntAt.mk f25 ho51
      refine s_op (o_callf (vs := #[(.pointer (some ⟨eb, 0, none⟩)), (.agg #[(S x32.key), (.bool x32.wr), (.int .i64 x32.own)])]) ca92 rfl (args2 rfl rfl) (hold_c (v := (⟨cur.hold, (cur.line.drop 1)⟩ : Ent)) (p := x32) hH58.all1 hd59 (by first | omega | (simp only []; omega) | (simp; done) | (simp; omega))) ?_)
      rintro _ w65 ⟨sg60, rfl, hd61, hX62⟩
      refine ⟨_, rfl, ?_⟩
      have hH63 : Has E w65 [sg60, [Hp.one b42 (.cells #[(S x32.key), (.bool x32.wr), (.int .i64 x32.own)] 170 (0, 0))], so, R] := hX62.of_all1
      refine s_nil ?_
      refine t_norm (hK57 _ _ ?_)
      refine c_region ?_
      refine s_op (o_move (v := vo) e13_3 ?_)
      refine s_op (o_fieldAddr (k := 2) (fun _ => by kernel_rfl) rfl ?_)
      refine s_op (o_load1 (v := (.int .i64 x32.own)) Try.underlying3 rfl rfl hH63 (seg_sub 1 rfl) (CellsAt.one rfl) ?_)
      refine s_op (o_buildSlice (ps := #[(0, (.int .i64 x32.own))]) (cells := #[(.int .i64 x32.own)]) Try.underlying54 ti3 (by decide) (parts1 rfl) (by kernel_rfl) hH63 fun b66 w67 hH68 => ?_)
      refine s_op (o_append Try.underlying54 ti3 rfl (by decide) rfl hoo rfl (sl_lit (f := iV) (l := [x32.own]) rfl rfl (by simp)) (hH68.front 3 rfl) (seg_sub 0 rfl) (one_iV _) (by simp; omega) (by simp; omega) fun v69 s70 w72 ho71 hH73 => ?_)
      have ho71 : Own 3 1 v69 (out ++ [x32.own]).length ((out ++ [x32.own]).map iV) s70 := ho71.app
      refine s_op (o_assign (v := v69) rfl ?_)
      refine s_nil ?_
      refine b_norm ?_
      have hH74 : Has E w72 [s70, sg60, R] := (((hH73.front 4 rfl).front 3 rfl).front 2 rfl).first 3 rfl
      refine t_norm ⟨(⟨holdS (⟨cur.hold, (cur.line.drop 1)⟩ : Ent).hold x32, (⟨cur.hold, (cur.line.drop 1)⟩ : Ent).line⟩ : Ent).line.length, _, rfl, ?_, ?_⟩
      · simp only [List.length_drop]; omega
      · exact ⟨(⟨holdS (⟨cur.hold, (cur.line.drop 1)⟩ : Ent).hold x32, (⟨cur.hold, (cur.line.drop 1)⟩ : Ent).line⟩ : Ent), sg60, v69, s70, (out ++ [x32.own]), rfl, hH74, (ho71), (hd61), (by rw [hgr, grant_go (show cur.line[0]? = some _ from hx33) h37]; simp), (by have h7_ := holdS_len cur.hold x32; simp only [List.length_append, List.length_drop, List.length_cons, List.length_nil]; omega), e13_0, e13_2, rfl⟩
    · -- not: freeS cur.hold x32
      refine wp_exit ?_
      refine t_exit (t_exit (x_in (?_)))
      refine t_norm (hK10 _ _ ?_)
      refine wp_seq_k fun K75 hK75 => ?_
      refine c_region ?_
      refine s_op (o_move (v := vo) e13_3 ?_)
      refine s_op (o_assign (v := vo) rfl ?_)
      refine s_nil ?_
      refine t_norm (hK75 _ _ ?_)
      refine wp_ret ?_
      refine c_ret1 Try.results132  (v := vo) rfl ?_
      rw [grant_stop (h := cur.hold) (l := cur.line) (.inr ⟨_, show cur.line[0]? = some _ from hx33, h37⟩), List.append_nil] at hgr
      have q76 : (grantS v.hold v.line).1 = out := by rw [hgr]
      have hH77 : Has E w36 [([Hp.one eb (.cells #[x21, x22] 168 (0, 0))] ++ (s23 ++ s24)), so, R] := Has.cl3 (((hH35.front 2 rfl).front 2 rfl).front 2 rfl)
      have hd78 : EntAt eb ([Hp.one eb (.cells #[x21, x22] 168 (0, 0))] ++ (s23 ++ s24)) cur := EntAt.mk f25 f26
      have q79 : grE v = cur := by unfold grE; rw [hgr]
      have hH80 : Has E w36 [so, ([Hp.one eb (.cells #[x21, x22] 168 (0, 0))] ++ (s23 ++ s24)), R] := (((hH77.front 2 rfl).front 1 rfl).front 2 rfl).first 3 rfl
      exact ⟨_, _, _, rfl, (by rw [q76]; exact hoo), (by rw [q79]; exact hd78), hH80⟩
  · -- not: 0 < ((cur.line.length : Nat) : Int)
    refine s_off (b' := false) 11 rfl (congrArg Value.bool (decide_eq_false h28)) rfl ?_
    refine s_off (b' := false) 11 rfl (congrArg Value.bool (decide_eq_false h28)) rfl ?_
    refine s_off (b' := false) 11 rfl (congrArg Value.bool (decide_eq_false h28)) rfl ?_
    refine s_off (b' := false) 11 rfl (congrArg Value.bool (decide_eq_false h28)) rfl ?_
    refine s_off (b' := false) 11 rfl (congrArg Value.bool (decide_eq_false h28)) rfl ?_
    refine s_off (b' := false) 11 rfl (congrArg Value.bool (decide_eq_false h28)) rfl ?_
    refine s_off (b' := false) 11 rfl (congrArg Value.bool (decide_eq_false h28)) rfl ?_
    refine s_off (b' := false) 11 rfl (congrArg Value.bool (decide_eq_false h28)) rfl ?_
    refine s_op (o_pick_f (u := (.bool false)) ((rfl : _ = _).trans (congrArg Value.bool (decide_eq_false h28))) rfl ?_)
    refine s_nil ?_
    refine t_norm (hK20 _ _ ?_)
    refine c_false rfl rfl ?_
    refine wp_exit ?_
    refine t_exit (t_exit (x_in (?_)))
    refine t_norm (hK10 _ _ ?_)
    refine wp_seq_k fun K81 hK81 => ?_
    refine c_region ?_
    refine s_op (o_move (v := vo) e13_3 ?_)
    refine s_op (o_assign (v := vo) rfl ?_)
    refine s_nil ?_
    refine t_norm (hK81 _ _ ?_)
    refine wp_ret ?_
    refine c_ret1 Try.results132  (v := vo) rfl ?_
    rw [grant_stop (h := cur.hold) (l := cur.line) (.inl (List.eq_nil_of_length_eq_zero (by omega))), List.append_nil] at hgr
    have q82 : (grantS v.hold v.line).1 = out := by rw [hgr]
    have hH83 : Has E w16 [([Hp.one eb (.cells #[x21, x22] 168 (0, 0))] ++ (s23 ++ s24)), so, R] := Has.cl3 (((hH27.front 2 rfl).front 2 rfl).front 2 rfl)
    have hd84 : EntAt eb ([Hp.one eb (.cells #[x21, x22] 168 (0, 0))] ++ (s23 ++ s24)) cur := EntAt.mk f25 f26
    have q85 : grE v = cur := by unfold grE; rw [hgr]
    have hH86 : Has E w16 [so, ([Hp.one eb (.cells #[x21, x22] 168 (0, 0))] ++ (s23 ++ s24)), R] := (((hH83.front 2 rfl).front 1 rfl).front 2 rfl).first 3 rfl
    exact ⟨_, _, _, rfl, (by rw [q82]; exact hoo), (by rw [q85]; exact hd84), hH86⟩
end Go.Q
namespace Go.Q
theorem Has.below {w w' : World} (H : Has w w' [[Hp.of w]]) : RowKit.Below w.heap.size w w' := by
  have hs : ∀ b o, w.heap[b]? = some o → w'.heap[b]? = some o := Has0.sub H (Hp.of w) (by simp)
  have hb : ∀ k, k < w.heap.size → w'.heap[k]? = w.heap[k]? := fun k hk => by
    rw [hs k w.heap[k] (Array.getElem?_eq_getElem hk), Array.getElem?_eq_getElem hk]
  refine ⟨H.os, H.tape, H.output, ?_, hb⟩
  rcases Nat.eq_zero_or_pos w.heap.size with h | h
  · omega
  · have h1 := hb (w.heap.size - 1) (by omega)
    rw [Array.getElem?_eq_getElem (show w.heap.size - 1 < w.heap.size by omega)] at h1
    have h2 := (Array.getElem?_eq_some_iff.1 h1).1
    omega
/-- cells that are read one by one, as a row -/
theorem cells_row {w : World} {x : Addr} {vs : List Value} (h0 : 0 < vs.length) (h : ∀ i v, vs[i]? = some v → w.cell? (x.add i) = some v) : ∃ b off, x = ⟨b, off, none⟩ ∧ CellsAt [Hp.of w] b off vs := by
  obtain ⟨b, off, spot⟩ := x
  have hc := h 0 vs[0] (List.getElem?_eq_getElem h0)
  simp only [Addr.add, if_true, World.cell?] at hc
  cases hb : w.heap[b]? with
  | none => rw [hb] at hc; cases hc
  | some o =>
    cases o with
    | cells c T f =>
      rw [hb] at hc
      simp only at hc
      cases spot with
      | some s => simp at hc
      | none =>
        refine ⟨b, off, rfl, Hp.of w, List.mem_singleton.2 rfl, c, T, f, hb, fun j v hv => ?_⟩
        have := h j v hv
        rw [add_lit] at this
        simpa [World.cell?, hb] using this
    | _ => rw [hb] at hc; simp at hc
theorem ints_row {w : World} {a : Option Addr} {len cap : Nat} {zs : List Int}
    (h : (a = none ∧ len = 0 ∧ cap = 0 ∧ zs = []) ∨ ∃ x, a = some x ∧ len ≤ cap ∧ cap ≤ maxLen ∧ zs.length = cap ∧ (∀ i, i < zs.length → w.cell? (x.add i) = some (.int .i64 (zs.getD i 0))) ∧ ∀ n ∈ zs, (Lit.int .i64 n).wf = true) :
    ∃ l : List Int, l.length = len ∧ Ints [Hp.of w] (.slice a len cap) l ∧ ∀ n ∈ l, -9223372036854775808 ≤ n ∧ n ≤ 9223372036854775807 := by
  rcases h with ⟨rfl, rfl, rfl, rfl⟩ | ⟨x, rfl, h1, h2, h3, h4, h5⟩
  · exact ⟨[], rfl, sl_nil 1, fun n hn => by cases hn⟩
  · have hl : (zs.take len).length = len := by rw [List.length_take]; omega
    refine ⟨zs.take len, hl, ?_, fun n hn => ?_⟩
    · unfold Ints
      rw [hl]
      refine ⟨some x, cap, rfl, h1, by simpa [maxLen] using h2, by simp; omega, fun h0 => ?_⟩
      obtain ⟨b, off, rfl, hc⟩ := cells_row (w := w) (x := x) (vs := (zs.take len).map iV) (by simp; omega) (fun i v hv => by
        rw [List.getElem?_map, Option.map_eq_some_iff] at hv
        obtain ⟨z, hz, rfl⟩ := hv
        rw [List.getElem?_take] at hz
        split at hz
        · rw [h4 i (by omega), List.getD_eq_getElem?_getD, hz]; rfl
        · cases hz)
      exact ⟨b, off, rfl, hc⟩
    · have := h5 n (List.mem_of_mem_take hn)
      simp only [Lit.wf, IntKind.min, IntKind.max, IntKind.signed, IntKind.bits, Bool.and_eq_true, decide_eq_true_eq, if_true] at this
      omega
end Go.Q
namespace Go.Q
theorem wf_i64 {x : Int} (h : (Lit.int .i64 x).wf = true) : -9223372036854775808 ≤ x ∧ x ≤ 9223372036854775807 := by
  simp only [Lit.wf, IntKind.min, IntKind.max, IntKind.signed, IntKind.bits, Bool.and_eq_true, decide_eq_true_eq, if_true] at h
  omega
theorem wf_u8 {x : Int} (h : (Lit.int .u8 x).wf = true) : 0 ≤ x ∧ x ≤ 255 := by
  simp [Lit.wf, IntKind.min, IntKind.max, IntKind.signed, IntKind.bits] at h
  omega
end Go.Q
namespace Go.Q
open Go.Proofs Go.Shelf
def jl_ren : Go.Shelf.Ren := ⟨fun | 156 => 79 | 165 => 120 | 166 => 81 | 169 => 82 | 240 => 121 | 241 => 159 | 276 => 160 | 277 => 181 | n => n, fun | 31 => 53 | 9 => 9 | 3 => 3 | 4 => 4 | 0 => 0 | 20 => 20 | 72 => 149 | 76 => 152 | 70 => 146 | 37 => 147 | 75 => 151 | 127 => 208 | 164 => 243 | 5 => 5 | 80 => 58 | n => n, fun | n => n⟩
theorem jl : Go.Proofs.Lays.n156 Try.prog jl_ren := {
  mixed := by kernel_rfl
  f156 := Try.func79.trans (congrArg some (by kernel_rfl))
  f165 := Try.func120.trans (congrArg some (by kernel_rfl))
  f166 := Try.func81.trans (congrArg some (by kernel_rfl))
  f169 := Try.func82.trans (congrArg some (by kernel_rfl))
  f240 := Try.func121.trans (congrArg some (by kernel_rfl))
  f241 := Try.func159.trans (congrArg some (by kernel_rfl))
  f276 := Try.func160.trans (congrArg some (by kernel_rfl))
  f277 := Try.func181.trans (congrArg some (by kernel_rfl))
  t0 := Try.underlying0
  a0 := Try.isAgg0
  z0 := Try.sizeOf0
  v0 := Try.zeroValue0
  t3 := Try.underlying3
  a3 := Try.isAgg3
  z3 := Try.sizeOf3
  v3 := Try.zeroValue3
  t4 := Try.underlying4
  a4 := Try.isAgg4
  z4 := Try.sizeOf4
  v4 := Try.zeroValue4
  t9 := Try.underlying9
  a9 := Try.isAgg9
  z9 := Try.sizeOf9
  v9 := Try.zeroValue9
  t20 := Try.underlying20
  a20 := Try.isAgg20
  z20 := Try.sizeOf20
  v20 := Try.zeroValue20
  t31 := Try.underlying53
  a31 := Try.isAgg53
  z31 := Try.sizeOf53
  v31 := Try.zeroValue53
  t37 := Try.underlying147
  a37 := Try.isAgg147
  z37 := Try.sizeOf147
  v37 := Try.zeroValue147
  t70 := Try.underlying146
  a70 := Try.isAgg146
  z70 := Try.sizeOf146
  v70 := Try.zeroValue146
  t72 := Try.underlying149
  a72 := Try.isAgg149
  z72 := Try.sizeOf149
  v72 := Try.zeroValue149
  t75 := Try.underlying151
  a75 := Try.isAgg151
  z75 := Try.sizeOf151
  v75 := Try.zeroValue151
  t76 := Try.underlying152
  a76 := Try.isAgg152
  z76 := Try.sizeOf152
  v76 := Try.zeroValue152
  t127 := Try.underlying208
  a127 := Try.isAgg208
  z127 := Try.sizeOf208
  v127 := Try.zeroValue208
  t164 := Try.underlying243
  a164 := Try.isAgg243
  z164 := Try.sizeOf243
  v164 := Try.zeroValue243 }
def rpl_ren : Go.Shelf.Ren := ⟨fun | 105 => 119 | 212 => 118 | 99 => 157 | 165 => 120 | 166 => 81 | 170 => 158 | 169 => 82 | 263 => 155 | 264 => 156 | 206 => 180 | 240 => 121 | 241 => 159 | 276 => 160 | 277 => 181 | n => n, fun | 9 => 9 | 3 => 3 | 4 => 4 | 20 => 20 | 0 => 0 | 46 => 204 | 109 => 205 | 5 => 5 | 72 => 149 | 76 => 152 | 51 => 236 | 146 => 237 | 53 => 239 | 148 => 240 | 70 => 146 | 37 => 147 | 75 => 151 | 127 => 208 | 164 => 243 | 80 => 58 | n => n, fun | n => n⟩
theorem rpl : Go.Proofs.Lays.n105 Try.prog rpl_ren := {
  mixed := by kernel_rfl
  f99 := Try.func157.trans (congrArg some (by kernel_rfl))
  f105 := Try.func119.trans (congrArg some (by kernel_rfl))
  f165 := Try.func120.trans (congrArg some (by kernel_rfl))
  f166 := Try.func81.trans (congrArg some (by kernel_rfl))
  f169 := Try.func82.trans (congrArg some (by kernel_rfl))
  f170 := Try.func158.trans (congrArg some (by kernel_rfl))
  f206 := Try.func180.trans (congrArg some (by kernel_rfl))
  f212 := Try.func118.trans (congrArg some (by kernel_rfl))
  f240 := Try.func121.trans (congrArg some (by kernel_rfl))
  f241 := Try.func159.trans (congrArg some (by kernel_rfl))
  f263 := Try.func155.trans (congrArg some (by kernel_rfl))
  f264 := Try.func156.trans (congrArg some (by kernel_rfl))
  f276 := Try.func160.trans (congrArg some (by kernel_rfl))
  f277 := Try.func181.trans (congrArg some (by kernel_rfl))
  t0 := Try.underlying0
  a0 := Try.isAgg0
  z0 := Try.sizeOf0
  v0 := Try.zeroValue0
  t3 := Try.underlying3
  a3 := Try.isAgg3
  z3 := Try.sizeOf3
  v3 := Try.zeroValue3
  t4 := Try.underlying4
  a4 := Try.isAgg4
  z4 := Try.sizeOf4
  v4 := Try.zeroValue4
  t5 := Try.underlying5
  a5 := Try.isAgg5
  z5 := Try.sizeOf5
  v5 := Try.zeroValue5
  t9 := Try.underlying9
  a9 := Try.isAgg9
  z9 := Try.sizeOf9
  v9 := Try.zeroValue9
  t20 := Try.underlying20
  a20 := Try.isAgg20
  z20 := Try.sizeOf20
  v20 := Try.zeroValue20
  t37 := Try.underlying147
  a37 := Try.isAgg147
  z37 := Try.sizeOf147
  v37 := Try.zeroValue147
  t46 := Try.underlying204
  a46 := Try.isAgg204
  z46 := Try.sizeOf204
  v46 := Try.zeroValue204
  t51 := Try.underlying236
  a51 := Try.isAgg236
  z51 := Try.sizeOf236
  v51 := Try.zeroValue236
  t53 := Try.underlying239
  a53 := Try.isAgg239
  z53 := Try.sizeOf239
  v53 := Try.zeroValue239
  t70 := Try.underlying146
  a70 := Try.isAgg146
  z70 := Try.sizeOf146
  v70 := Try.zeroValue146
  t72 := Try.underlying149
  a72 := Try.isAgg149
  z72 := Try.sizeOf149
  v72 := Try.zeroValue149
  t75 := Try.underlying151
  a75 := Try.isAgg151
  z75 := Try.sizeOf151
  v75 := Try.zeroValue151
  t76 := Try.underlying152
  a76 := Try.isAgg152
  z76 := Try.sizeOf152
  v76 := Try.zeroValue152
  t109 := Try.underlying205
  a109 := Try.isAgg205
  z109 := Try.sizeOf205
  v109 := Try.zeroValue205
  t127 := Try.underlying208
  a127 := Try.isAgg208
  z127 := Try.sizeOf208
  v127 := Try.zeroValue208
  t146 := Try.underlying237
  a146 := Try.isAgg237
  z146 := Try.sizeOf237
  v146 := Try.zeroValue237
  t148 := Try.underlying240
  a148 := Try.isAgg240
  z148 := Try.sizeOf240
  v148 := Try.zeroValue240
  t164 := Try.underlying243
  a164 := Try.isAgg243
  z164 := Try.sizeOf243
  v164 := Try.zeroValue243 }
def mul_ren : Go.Shelf.Ren := ⟨fun | 212 => 118 | 263 => 155 | 264 => 156 | n => n, fun | 46 => 204 | 51 => 236 | 146 => 237 | 53 => 239 | 148 => 240 | n => n, fun | n => n⟩
theorem mul : Go.Proofs.Lays.n212 Try.prog mul_ren := {
  mixed := by kernel_rfl
  f212 := Try.func118.trans (congrArg some (by kernel_rfl))
  f263 := Try.func155.trans (congrArg some (by kernel_rfl))
  f264 := Try.func156.trans (congrArg some (by kernel_rfl))
  t46 := Try.underlying204
  a46 := Try.isAgg204
  z46 := Try.sizeOf204
  v46 := Try.zeroValue204
  t51 := Try.underlying236
  a51 := Try.isAgg236
  z51 := Try.sizeOf236
  v51 := Try.zeroValue236
  t53 := Try.underlying239
  a53 := Try.isAgg239
  z53 := Try.sizeOf239
  v53 := Try.zeroValue239
  t146 := Try.underlying237
  a146 := Try.isAgg237
  z146 := Try.sizeOf237
  v146 := Try.zeroValue237
  t148 := Try.underlying240
  a148 := Try.isAgg240
  z148 := Try.sizeOf240
  v148 := Try.zeroValue240 }
theorem jl_extra : Builder.Extra Try.prog jl_ren := {
  sizeBuilder := by kernel_rfl
  liesBuilder := by kernel_rfl
  t5 := Try.underlying5
  a5 := Try.isAgg5
  z5 := Try.sizeOf5
  v5 := Try.zeroValue5
  infoByte := by kernel_rfl
  cellsByte := by kernel_rfl
  sizeByte := by kernel_rfl
  neB5 := by decide }

theorem Has.of_below {E w w' : World} {ss : List (List Hp)} (H : Has E w ss) (hb : Go.RowKit.Below w.heap.size w w') : Has E w' ss :=
  ⟨hb.os.trans H.os, hb.tape.trans H.tape, hb.output.trans H.output, H.dj, fun h hh b o ho => by
    have h1 := Has0.sub H h hh b o ho
    rw [hb.block b (Array.getElem?_eq_some_iff.1 h1).1]; exact h1⟩
theorem join_flat : ∀ l : List (List UInt8), Lib.join l [] = l.flatten
  | [] => rfl
  | [x] => by rw [Lib.join_one]; simp
  | x :: y :: r => by
    have h := join_flat (y :: r)
    unfold Lib.join List.intercalate at *
    rw [List.intersperse_cons_cons, List.flatten_cons, List.flatten_cons, h, List.nil_append]; rfl
theorem join_c {E w : World} {R : List Hp} (hH : Has E w [R]) {v : Value} {l : List (List UInt8)} (hv : Sl R 1 v l.length (l.map S)) (hn : l.length ≤ 1000000) (hl : l.flatten.length ≤ 1000000000) :
    Calls Try.prog 79 #[v, S []] w fun e w' => e = .returned (S l.flatten) ∧ Has E w' [R] := by
  obtain ⟨p, cap, rfl, h1, h2, h3, h4⟩ := hv
  rcases Nat.eq_zero_or_pos l.length with h0 | h0
  · obtain rfl := List.eq_nil_of_length_eq_zero h0
    exact (Any.strings_Join_none jl jl_extra p cap ⟨#[]⟩ w).mono fun e w' ⟨he, hw⟩ => ⟨he, by rw [hw]; exact hH⟩
  · obtain ⟨b, off, rfl, hc⟩ := h4 h0
    have hcell : ∀ (j : Nat) x, (l.map (fun a => (⟨a.toArray⟩ : ByteArray)))[j]? = some x → w.cell? ⟨b, off + j, none⟩ = some (.string x) := fun j x hx => by
      rw [List.getElem?_map, Option.map_eq_some_iff] at hx
      obtain ⟨a, ha, rfl⟩ := hx
      exact hH.cell (L := R) (by simp) hc (v := S a) (by rw [List.getElem?_map, ha]; rfl)
    have hb : b < w.heap.size := by
      obtain ⟨x, hx⟩ : ∃ x, l[0]? = some x := ⟨l[0], List.getElem?_eq_getElem h0⟩
      have := hcell 0 ⟨x.toArray⟩ (by rw [List.getElem?_map, hx]; rfl)
      unfold World.cell? at this
      cases hw : w.heap[b]? with
      | none => rw [hw] at this; cases this
      | some o => exact (Array.getElem?_eq_some_iff.1 hw).1
    have e1 : (l.map (fun a => (⟨a.toArray⟩ : ByteArray))).map (·.data.toList) = l := by rw [List.map_map]; simp [Function.comp_def]
    have hj : Lib.join ((l.map (fun a => (⟨a.toArray⟩ : ByteArray))).map (·.data.toList)) ((⟨#[]⟩ : ByteArray).data.toList) = l.flatten := by rw [e1]; exact join_flat l
    have hs := Any.strings_Join jl jl_extra b off cap (l.map (fun a => (⟨a.toArray⟩ : ByteArray))) ⟨#[]⟩ w hcell hb (by rw [List.length_map]; omega) (by rw [List.length_map]; exact h1) (by rw [hj]; omega)
    rw [hj, List.length_map] at hs
    exact hs.mono fun e w' ⟨he, hb⟩ => ⟨he, hH.of_below hb⟩
theorem rpl_extra : Builder.Extra Try.prog rpl_ren := {
  sizeBuilder := by kernel_rfl
  liesBuilder := by kernel_rfl
  t5 := Try.underlying5
  a5 := Try.isAgg5
  z5 := Try.sizeOf5
  v5 := Try.zeroValue5
  infoByte := by kernel_rfl
  cellsByte := by kernel_rfl
  sizeByte := by kernel_rfl
  neB5 := by decide }
theorem repeat_c {E w : World} {R : List Hp} (hH : Has E w [R]) (n : Nat) (hn : n ≤ 1000000) : Calls Try.prog 119 #[S [0], .int .i64 (n : Int)] w fun e w' => e = .returned (S (List.replicate n 0)) ∧ Has E w' [R] := by
  have h := Any.strings_Repeat rpl rpl_extra ⟨#[0]⟩ n w (by omega) (by show 1 * n ≤ _; omega)
  refine h.mono fun e w' ⟨he, hb⟩ => ⟨?_, hH.of_below hb⟩
  rw [he]
  have : ∀ n, Lib.repeatL [(0 : UInt8)] n = List.replicate n 0 := fun n => by
    induction n with
    | zero => rfl
    | succ n ih => simp [Lib.repeatL, List.replicate_succ] at *; try exact ih
  exact congrArg (fun l => Ending.returned (Value.string ⟨l.toArray⟩)) (this n)
theorem mul_c {E w : World} {R : List Hp} (hH : Has E w [R]) (x y : Nat) (h : x * y < 18446744073709551616) (hx : x < 18446744073709551616) (hy : y < 18446744073709551616) : Calls Try.prog 118 #[.int .u64 x, .int .u64 y] w fun e w' => e = .returned (.tuple #[.int .u64 0, .int .u64 ((x * y : Nat) : Int)]) ∧ Has E w' [R] := by
  refine (Any.bits_Mul mul x y hx hy w).mono fun e w' ⟨he, hw⟩ => ⟨?_, hw ▸ hH⟩
  rw [he, Nat.div_eq_of_lt h, Nat.mod_eq_of_lt h]; rfl
end Go.Q
namespace Go.Q
open Go.Proofs Go.Shelf
def kyl_ren : Go.Shelf.Ren := ⟨fun | 7 => 89 | 10 => 124 | n => n, fun | 23 => 135 | 26 => 3 | 3 => 9 | 28 => 160 | 0 => 0 | 27 => 159 | 33 => 156 | 4 => 4 | n => n, fun | n => n⟩
theorem kyl : Go.Proofs.SlLaysZI.n7 Try.prog kyl_ren := {
  mixed := by kernel_rfl
  f7 := ⟨Try.f89.name, by decide, Try.func89.trans (congrArg some (by kernel_rfl))⟩
  f10 := ⟨Try.f124.name, by decide, Try.func124.trans (congrArg some (by kernel_rfl))⟩
  t0 := Try.underlying0
  a0 := Try.isAgg0
  z0 := Try.sizeOf0
  v0 := Try.zeroValue0
  t4 := Try.underlying4
  a4 := Try.isAgg4
  z4 := Try.sizeOf4
  v4 := Try.zeroValue4
  t23 := Try.underlying135
  a23 := Try.isAgg135
  z23 := Try.sizeOf135
  v23 := Try.zeroValue135
  t26 := Try.underlying3
  a26 := Try.isAgg3
  z26 := Try.sizeOf3
  v26 := Try.zeroValue3
  t27 := Try.underlying159
  a27 := Try.isAgg159
  z27 := Try.sizeOf159
  v27 := Try.zeroValue159
  t28 := Try.underlying160
  a28 := Try.isAgg160
  z28 := Try.sizeOf160
  v28 := Try.zeroValue160
  t33 := Try.underlying156
  a33 := Try.isAgg156
  z33 := Try.sizeOf156
  v33 := Try.zeroValue156 }
def stl_ren : Go.Shelf.Ren := ⟨fun | 6 => 88 | 8 => 122 | 9 => 123 | 11 => 161 | 13 => 163 | 12 => 162 | 23 => 191 | 24 => 192 | 14 => 182 | 15 => 183 | 16 => 184 | 17 => 185 | 18 => 186 | 19 => 187 | 20 => 188 | 21 => 189 | 22 => 190 | 25 => 201 | 26 => 202 | 27 => 203 | 28 => 204 | 29 => 205 | 30 => 145 | 31 => 221 | n => n, fun | 26 => 3 | 28 => 160 | 24 => 54 | 0 => 0 | 3 => 3 | 37 => 204 | 48 => 236 | 50 => 239 | 4 => 4 | 40 => 261 | 39 => 260 | 45 => 119 | 5 => 5 | 9 => 9 | 51 => 273 | 55 => 277 | 57 => 289 | 58 => 290 | 33 => 156 | n => n, fun | n => n⟩
theorem stl : Go.Proofs.SlLaysZI.n6 Try.prog stl_ren := {
  mixed := by kernel_rfl
  f6 := ⟨Try.f88.name, by decide, Try.func88.trans (congrArg some (by kernel_rfl))⟩
  f8 := ⟨Try.f122.name, by decide, Try.func122.trans (congrArg some (by kernel_rfl))⟩
  f11 := ⟨Try.f161.name, by decide, Try.func161.trans (congrArg some (by kernel_rfl))⟩
  t0 := Try.underlying0
  a0 := Try.isAgg0
  z0 := Try.sizeOf0
  v0 := Try.zeroValue0
  t24 := Try.underlying54
  a24 := Try.isAgg54
  z24 := Try.sizeOf54
  v24 := Try.zeroValue54
  t26 := Try.underlying3
  a26 := Try.isAgg3
  z26 := Try.sizeOf3
  v26 := Try.zeroValue3
  t28 := Try.underlying160
  a28 := Try.isAgg160
  z28 := Try.sizeOf160
  v28 := Try.zeroValue160
  i26 := by kernel_rfl }
def srl_ren : Go.Shelf.Ren := ⟨fun | 5 => 123 | 8 => 163 | 7 => 162 | 19 => 191 | 20 => 192 | 10 => 182 | 11 => 183 | 12 => 184 | 13 => 185 | 14 => 186 | 15 => 187 | 16 => 188 | 17 => 189 | 18 => 190 | 30 => 201 | 31 => 202 | 32 => 203 | 33 => 204 | 34 => 205 | 35 => 145 | 40 => 221 | n => n, fun | 23 => 54 | 25 => 3 | 3 => 3 | 32 => 204 | 22 => 54 | 0 => 0 | 44 => 236 | 46 => 239 | 4 => 4 | 36 => 261 | 35 => 260 | 41 => 119 | 5 => 5 | 9 => 9 | 53 => 273 | 57 => 277 | 63 => 289 | 64 => 290 | n => n, fun | n => n⟩
theorem srl : Go.Proofs.SlLaysM.n5 Try.prog srl_ren := {
  mixed := by kernel_rfl
  f5 := ⟨Try.f123.name, by decide, Try.func123.trans (congrArg some (by kernel_rfl))⟩
  f7 := ⟨Try.f162.name, by decide, Try.func162.trans (congrArg some (by kernel_rfl))⟩
  f8 := Try.func163.trans (congrArg some (by kernel_rfl))
  f10 := ⟨Try.f182.name, by decide, Try.func182.trans (congrArg some (by kernel_rfl))⟩
  f11 := ⟨Try.f183.name, by decide, Try.func183.trans (congrArg some (by kernel_rfl))⟩
  f12 := ⟨Try.f184.name, by decide, Try.func184.trans (congrArg some (by kernel_rfl))⟩
  f13 := ⟨Try.f185.name, by decide, Try.func185.trans (congrArg some (by kernel_rfl))⟩
  f14 := ⟨Try.f186.name, by decide, Try.func186.trans (congrArg some (by kernel_rfl))⟩
  f15 := ⟨Try.f187.name, by decide, Try.func187.trans (congrArg some (by kernel_rfl))⟩
  f16 := ⟨Try.f188.name, by decide, Try.func188.trans (congrArg some (by kernel_rfl))⟩
  f17 := ⟨Try.f189.name, by decide, Try.func189.trans (congrArg some (by kernel_rfl))⟩
  f18 := ⟨Try.f190.name, by decide, Try.func190.trans (congrArg some (by kernel_rfl))⟩
  f19 := Try.func191.trans (congrArg some (by kernel_rfl))
  f20 := Try.func192.trans (congrArg some (by kernel_rfl))
  f30 := ⟨Try.f201.name, by decide, Try.func201.trans (congrArg some (by kernel_rfl))⟩
  f31 := Try.func202.trans (congrArg some (by kernel_rfl))
  f32 := Try.func203.trans (congrArg some (by kernel_rfl))
  f33 := ⟨Try.f204.name, by decide, Try.func204.trans (congrArg some (by kernel_rfl))⟩
  f34 := ⟨Try.f205.name, by decide, Try.func205.trans (congrArg some (by kernel_rfl))⟩
  f35 := ⟨Try.f145.name, by decide, Try.func145.trans (congrArg some (by kernel_rfl))⟩
  f40 := ⟨Try.f221.name, by decide, Try.func221.trans (congrArg some (by kernel_rfl))⟩
  t0 := Try.underlying0
  a0 := Try.isAgg0
  z0 := Try.sizeOf0
  v0 := Try.zeroValue0
  t3 := Try.underlying3
  a3 := Try.isAgg3
  z3 := Try.sizeOf3
  v3 := Try.zeroValue3
  t4 := Try.underlying4
  a4 := Try.isAgg4
  z4 := Try.sizeOf4
  v4 := Try.zeroValue4
  t5 := Try.underlying5
  a5 := Try.isAgg5
  z5 := Try.sizeOf5
  v5 := Try.zeroValue5
  t9 := Try.underlying9
  a9 := Try.isAgg9
  z9 := Try.sizeOf9
  v9 := Try.zeroValue9
  t22 := Try.underlying54
  a22 := Try.isAgg54
  z22 := Try.sizeOf54
  v22 := Try.zeroValue54
  t23 := Try.underlying54
  a23 := Try.isAgg54
  z23 := Try.sizeOf54
  v23 := Try.zeroValue54
  t25 := Try.underlying3
  a25 := Try.isAgg3
  z25 := Try.sizeOf3
  v25 := Try.zeroValue3
  t32 := Try.underlying204
  a32 := Try.isAgg204
  z32 := Try.sizeOf204
  v32 := Try.zeroValue204
  t35 := Try.underlying260
  a35 := Try.isAgg260
  z35 := Try.sizeOf260
  v35 := Try.zeroValue260
  t36 := Try.underlying261
  a36 := Try.isAgg261
  z36 := Try.sizeOf261
  v36 := Try.zeroValue261
  t41 := Try.underlying119
  a41 := Try.isAgg119
  z41 := Try.sizeOf119
  v41 := Try.zeroValue119
  t44 := Try.underlying236
  a44 := Try.isAgg236
  z44 := Try.sizeOf236
  v44 := Try.zeroValue236
  t46 := Try.underlying239
  a46 := Try.isAgg239
  z46 := Try.sizeOf239
  v46 := Try.zeroValue239
  t53 := Try.underlying273
  a53 := Try.isAgg273
  z53 := Try.sizeOf273
  v53 := Try.zeroValue273
  t57 := Try.underlying277
  a57 := Try.isAgg277
  z57 := Try.sizeOf277
  v57 := Try.zeroValue277
  t63 := Try.underlying289
  a63 := Try.isAgg289
  z63 := Try.sizeOf289
  v63 := Try.zeroValue289
  t64 := Try.underlying290
  a64 := Try.isAgg290
  z64 := Try.sizeOf290
  v64 := Try.zeroValue290 }

theorem srl_in (m : Nat) : AnyZI.SortsIn Try.prog stl_ren Fence.wide m :=
  ⟨fun blk off cap ss W hH hblk hsz => callsIn_wide.2 (AnyM.slices_Sort_int srl blk off cap ss W hH hblk hsz),
   fun p cap W => callsIn_wide.2 (AnyM.slices_Sort_int_none srl p cap W)⟩
theorem Has.row {E w w' : World} {ss : List (List Hp)} (H : Has E w ss) (hb : Go.RowKit.Below w.heap.size w w') {e : TypeId} {sz n : Nat} {v : Value} {cs : List Value} (hr : w'.ownsRow w.heap.size e sz v n cs) : ∃ hs, Own e sz v n cs hs ∧ Has E w' (hs :: ss) := by
  have H' := H.of_below hb
  obtain ⟨hl, ⟨rfl, h0⟩ | ⟨k, cap, cur, rfl, hk, hbk, h1, h2, h3, h4⟩⟩ := hr
  · exact ⟨[], ⟨hl, .inl ⟨rfl, h0, rfl⟩⟩, Has.nil H'⟩
  · refine ⟨[Hp.one k (.cells cur e (0, 0))], ⟨hl, .inr ⟨k, cap, cur, rfl, rfl, h1, h2, h3, h4⟩⟩, ?_⟩
    refine ⟨H'.os, H'.tape, H'.output, ?_, ?_⟩
    · refine List.pairwise_cons.2 ⟨fun h hh j => ?_, H'.dj⟩
      cases hj : h j with
      | none => exact .inr rfl
      | some o =>
        refine .inl ?_
        have := (Array.getElem?_eq_some_iff.1 (Has0.sub H h hh j o hj)).1
        unfold Hp.one; rw [if_neg (by omega)]
    · intro h hh
      rcases List.mem_cons.1 hh with rfl | hh
      · intro j o hj
        obtain ⟨rfl, rfl⟩ := Hp.one_some hj
        exact hbk
      · exact Has0.sub H' h hh
theorem mkeys_c {E w : World} {ss : List Hp} (H : Has E w [ss]) (mb : Nat) : Calls Try.prog 89 #[.map (some mb)] w fun e w' => ∃ b, e = .returned (.func (.func 124) #[] #[.pointer (some ⟨b, 0, none⟩)]) ∧ Has E w' [[Hp.one b (.cells #[.map (some mb)] 135 (0, 0))], ss] := by
  refine (callsIn_wide.1 (AnyZI.keys_in kyl Fence.wide 5 trivial rfl (some mb) w)).mono fun e w' ⟨he, hw⟩ => ⟨w.heap.size, he, ?_⟩
  rw [hw]
  exact H.alloc _
set_option maxRecDepth 100000 in
theorem MapV.owns {f : Bs → Value} {es : Array MapEntry} {c : Nat} {lo : List (Int × Bs)} (h : MapV iV f es c lo) {w : World} {b : Nat} (hb : w.heap[b]? = some (.map es c)) {k : TypeId} (hk : Try.prog.underlying k = some (.int .i64))
    (hw : ∀ p ∈ lo, (Lit.int .i64 p.1).wf = true) (hn : lo.length ≤ 1000000) : ∃ D : DataW Nat, w.ownsMap Try.prog k (fun _ => some (.lit (.bool true), [])) b lo.length D ∧ Maps.size D = lo.length ∧ (intKeys D).Perm (lo.map (·.1)) := by
  have hkey : ∀ x ∈ es.toList, ∃ p ∈ lo, x.key = .int .i64 p.1 := fun x hx => by
    have : x.key ∈ es.toList.map (·.key) := List.mem_map.2 ⟨x, hx, rfl⟩
    rw [h.keys] at this
    obtain ⟨p, hp, e⟩ := List.mem_map.1 this
    exact ⟨p, hp, e.symm⟩
  have hrd : ∀ x ∈ es.toList, ∃ p ∈ lo, x.key = .int .i64 p.1 ∧ Go.WideElems.rd (H := Nat) Try.prog k (fun _ => some (.lit (.bool true), [])) x = some (.int .i64 p.1, .lit (.bool true)) := fun x hx => by
    obtain ⟨p, hp, e⟩ := hkey x hx
    refine ⟨p, hp, e, ?_⟩
    unfold Go.WideElems.rd
    rw [e, Go.Maps.keyOf_int_mk hk (hw p hp)]; rfl
  have hsz := h.size
  refine ⟨.map ((es.toList.map (Go.WideElems.rg Try.prog k (fun _ => some (.lit (.bool true), [])))).foldr DataW.insert []), ⟨es, c, hb, ⟨by rw [hsz]; simp only [maxLen]; omega, h.2, fun x hx => by obtain ⟨p, _, _, e⟩ := hrd x hx; exact ⟨_, e⟩⟩, by omega, rfl⟩, ?_, ?_⟩
  · show List.length _ = _
    rw [(Go.WideShapes.sorted_perm _).length_eq, List.length_map]; simpa using hsz
  · show (List.map (fun p : Lit × DataW Nat => intOf p.1) _).Perm _
    refine ((Go.WideShapes.sorted_perm _).map _).trans ?_
    rw [List.map_map]
    have e1 : es.toList.map ((fun p : Lit × DataW Nat => intOf p.1) ∘ Go.WideElems.rg Try.prog k (fun _ => some (.lit (.bool true), []))) = es.toList.map (fun x => match x.key with | .int _ a => a | _ => 0) := List.map_congr_left fun x hx => by
      obtain ⟨p, _, e, g⟩ := hrd x hx
      show intOf (Go.WideElems.rg _ _ _ x).1 = _
      unfold Go.WideElems.rg
      rw [g, e]; rfl
    have e2 : es.toList.map (fun x => match x.key with | .int _ a => a | _ => 0) = lo.map (·.1) := by
      have := congrArg (List.map (fun v : Value => match v with | .int _ a => a | _ => (0 : Int))) h.keys
      rw [List.map_map, List.map_map] at this
      exact this
    rw [e1, e2]
theorem skeys_c {E w : World} {R : List Hp} {b mb c : Nat} {es : Array MapEntry} {lo : List (Int × Bs)} {f : Bs → Value} (H : Has E w [[Hp.one b (.cells #[.map (some mb)] 135 (0, 0))], [Hp.one mb (.map es c)], R]) (hm : MapV iV f es c lo)
    (hw : ∀ p ∈ lo, (Lit.int .i64 p.1).wf = true) (hn : lo.length ≤ 1000000) :
    Calls Try.prog 88 #[.func (.func 124) #[] #[.pointer (some ⟨b, 0, none⟩)]] w fun e w' => ∃ v hs, e = .returned v ∧ Own 3 1 v (keysS lo).length ((keysS lo).map iV) hs ∧ Has E w' [hs, [Hp.one b (.cells #[.map (some mb)] 135 (0, 0))], [Hp.one mb (.map es c)], R] := by
  have hb1 : w.heap[b]? = some (.cells #[.map (some mb)] 135 (0, 0)) := H.at (h := Hp.one b (.cells #[.map (some mb)] 135 (0, 0))) (by simp) (Hp.one_at _ _)
  have hb2 : w.heap[mb]? = some (.map es c) := H.at (h := Hp.one mb (.map es c)) (by simp) (Hp.one_at _ _)
  obtain ⟨D, hown, hsz, hperm⟩ := hm.owns hb2 (k := 3) Try.underlying3 hw hn
  have hlt : b < w.heap.size := (Array.getElem?_eq_some_iff.1 hb1).1
  have hseq : SeqGives Fence.wide 2 Try.prog 124 #[.pointer (some ⟨b, 0, none⟩)] encZ (fun ss => ss.Perm (intKeys D)) (Maps.size D) w :=
    AnyZI.keys_gives (ρ := kyl_ren) { kyl with } Fence.wide _ trivial rfl (by omega) b mb lo.length D w hlt (by simp [World.cell?, hb1]) hown
  have hs := AnyZI.sorted_in stl Fence.wide 5 trivial trivial trivial trivial rfl (by omega) (srl_in _) (enters_of Try.func123 (by kernel_rfl) rfl) 124 #[.pointer (some ⟨b, 0, none⟩)] trivial (enters_of Try.func124 (by kernel_rfl) rfl) _ (Maps.size D) (by simp only [maxLen]; omega) (by omega) w hseq
  refine (callsIn_wide.1 hs).mono fun e w' ⟨v, ss, he, hp, hrow, _, hbl⟩ => ?_
  obtain ⟨hs', ho, hH⟩ := H.row hbl hrow
  have e1 : ss.mergeSort (fun x y => decide (x ≤ y)) = keysS lo := mergeSort_of_perm_i (hp.trans hperm)
  have hl : ss.length = (keysS lo).length := by rw [← e1, List.length_mergeSort]
  rw [e1, hl] at ho
  exact ⟨v, hs', he, ho, hH⟩
end Go.Q
namespace Go.Q
open Go.Proofs Go.Shelf
def kys_ren : Go.Shelf.Ren := ⟨fun | 7 => 134 | 10 => 169 | n => n, fun | 23 => 162 | 26 => 9 | 3 => 165 | 28 => 215 | 0 => 0 | 27 => 214 | 33 => 252 | 4 => 4 | n => n, fun | n => n⟩
theorem kys : Go.Proofs.SlLaysZ.n7 Try.prog kys_ren := {
  mixed := by kernel_rfl
  f7 := ⟨Try.f134.name, by decide, Try.func134.trans (congrArg some (by kernel_rfl))⟩
  f10 := ⟨Try.f169.name, by decide, Try.func169.trans (congrArg some (by kernel_rfl))⟩
  t0 := Try.underlying0
  a0 := Try.isAgg0
  z0 := Try.sizeOf0
  v0 := Try.zeroValue0
  t4 := Try.underlying4
  a4 := Try.isAgg4
  z4 := Try.sizeOf4
  v4 := Try.zeroValue4
  t23 := Try.underlying162
  a23 := Try.isAgg162
  z23 := Try.sizeOf162
  v23 := Try.zeroValue162
  t26 := Try.underlying9
  a26 := Try.isAgg9
  z26 := Try.sizeOf9
  v26 := Try.zeroValue9
  t27 := Try.underlying214
  a27 := Try.isAgg214
  z27 := Try.sizeOf214
  v27 := Try.zeroValue214
  t28 := Try.underlying215
  a28 := Try.isAgg215
  z28 := Try.sizeOf215
  v28 := Try.zeroValue215
  t33 := Try.underlying252
  a33 := Try.isAgg252
  z33 := Try.sizeOf252
  v33 := Try.zeroValue252 }
def sts_ren : Go.Shelf.Ren := ⟨fun | 6 => 133 | 8 => 167 | 9 => 168 | 11 => 194 | 13 => 163 | 12 => 195 | 23 => 191 | 24 => 192 | 14 => 207 | 15 => 208 | 16 => 209 | 17 => 210 | 18 => 211 | 19 => 212 | 20 => 213 | 21 => 214 | 22 => 215 | 25 => 222 | 26 => 202 | 27 => 203 | 28 => 223 | 29 => 224 | 30 => 225 | 31 => 230 | n => n, fun | 26 => 9 | 28 => 215 | 24 => 53 | 0 => 0 | 3 => 3 | 37 => 204 | 48 => 236 | 50 => 239 | 4 => 4 | 40 => 261 | 39 => 260 | 45 => 119 | 5 => 5 | 9 => 9 | 51 => 273 | 55 => 277 | 57 => 289 | 58 => 290 | 33 => 252 | n => n, fun | n => n⟩
theorem sts : Go.Proofs.SlLaysZ.n6 Try.prog sts_ren := {
  mixed := by kernel_rfl
  f6 := ⟨Try.f133.name, by decide, Try.func133.trans (congrArg some (by kernel_rfl))⟩
  f8 := ⟨Try.f167.name, by decide, Try.func167.trans (congrArg some (by kernel_rfl))⟩
  f11 := ⟨Try.f194.name, by decide, Try.func194.trans (congrArg some (by kernel_rfl))⟩
  t0 := Try.underlying0
  a0 := Try.isAgg0
  z0 := Try.sizeOf0
  v0 := Try.zeroValue0
  t24 := Try.underlying53
  a24 := Try.isAgg53
  z24 := Try.sizeOf53
  v24 := Try.zeroValue53
  t26 := Try.underlying9
  a26 := Try.isAgg9
  z26 := Try.sizeOf9
  v26 := Try.zeroValue9
  t28 := Try.underlying215
  a28 := Try.isAgg215
  z28 := Try.sizeOf215
  v28 := Try.zeroValue215
  i26 := by kernel_rfl }
def srs_ren : Go.Shelf.Ren := ⟨fun | 6 => 168 | 8 => 163 | 9 => 195 | 19 => 191 | 20 => 192 | 21 => 207 | 22 => 208 | 23 => 209 | 24 => 210 | 25 => 211 | 26 => 212 | 27 => 213 | 28 => 214 | 29 => 215 | 36 => 222 | 31 => 202 | 32 => 203 | 37 => 223 | 38 => 224 | 39 => 225 | 41 => 230 | n => n, fun | 27 => 53 | 29 => 9 | 3 => 3 | 32 => 204 | 26 => 53 | 0 => 0 | 44 => 236 | 46 => 239 | 4 => 4 | 36 => 261 | 35 => 260 | 41 => 119 | 5 => 5 | 9 => 9 | 53 => 273 | 57 => 277 | 63 => 289 | 64 => 290 | n => n, fun | n => n⟩
theorem srs : Go.Proofs.SlLaysM.n6 Try.prog srs_ren := {
  mixed := by kernel_rfl
  f6 := ⟨Try.f168.name, by decide, Try.func168.trans (congrArg some (by kernel_rfl))⟩
  f8 := Try.func163.trans (congrArg some (by kernel_rfl))
  f9 := ⟨Try.f195.name, by decide, Try.func195.trans (congrArg some (by kernel_rfl))⟩
  f19 := Try.func191.trans (congrArg some (by kernel_rfl))
  f20 := Try.func192.trans (congrArg some (by kernel_rfl))
  f21 := ⟨Try.f207.name, by decide, Try.func207.trans (congrArg some (by kernel_rfl))⟩
  f22 := ⟨Try.f208.name, by decide, Try.func208.trans (congrArg some (by kernel_rfl))⟩
  f23 := ⟨Try.f209.name, by decide, Try.func209.trans (congrArg some (by kernel_rfl))⟩
  f24 := ⟨Try.f210.name, by decide, Try.func210.trans (congrArg some (by kernel_rfl))⟩
  f25 := ⟨Try.f211.name, by decide, Try.func211.trans (congrArg some (by kernel_rfl))⟩
  f26 := ⟨Try.f212.name, by decide, Try.func212.trans (congrArg some (by kernel_rfl))⟩
  f27 := ⟨Try.f213.name, by decide, Try.func213.trans (congrArg some (by kernel_rfl))⟩
  f28 := ⟨Try.f214.name, by decide, Try.func214.trans (congrArg some (by kernel_rfl))⟩
  f29 := ⟨Try.f215.name, by decide, Try.func215.trans (congrArg some (by kernel_rfl))⟩
  f31 := Try.func202.trans (congrArg some (by kernel_rfl))
  f32 := Try.func203.trans (congrArg some (by kernel_rfl))
  f36 := ⟨Try.f222.name, by decide, Try.func222.trans (congrArg some (by kernel_rfl))⟩
  f37 := ⟨Try.f223.name, by decide, Try.func223.trans (congrArg some (by kernel_rfl))⟩
  f38 := ⟨Try.f224.name, by decide, Try.func224.trans (congrArg some (by kernel_rfl))⟩
  f39 := ⟨Try.f225.name, by decide, Try.func225.trans (congrArg some (by kernel_rfl))⟩
  f41 := ⟨Try.f230.name, by decide, Try.func230.trans (congrArg some (by kernel_rfl))⟩
  t0 := Try.underlying0
  a0 := Try.isAgg0
  z0 := Try.sizeOf0
  v0 := Try.zeroValue0
  t3 := Try.underlying3
  a3 := Try.isAgg3
  z3 := Try.sizeOf3
  v3 := Try.zeroValue3
  t4 := Try.underlying4
  a4 := Try.isAgg4
  z4 := Try.sizeOf4
  v4 := Try.zeroValue4
  t5 := Try.underlying5
  a5 := Try.isAgg5
  z5 := Try.sizeOf5
  v5 := Try.zeroValue5
  t9 := Try.underlying9
  a9 := Try.isAgg9
  z9 := Try.sizeOf9
  v9 := Try.zeroValue9
  t26 := Try.underlying53
  a26 := Try.isAgg53
  z26 := Try.sizeOf53
  v26 := Try.zeroValue53
  t27 := Try.underlying53
  a27 := Try.isAgg53
  z27 := Try.sizeOf53
  v27 := Try.zeroValue53
  t29 := Try.underlying9
  a29 := Try.isAgg9
  z29 := Try.sizeOf9
  v29 := Try.zeroValue9
  t32 := Try.underlying204
  a32 := Try.isAgg204
  z32 := Try.sizeOf204
  v32 := Try.zeroValue204
  t35 := Try.underlying260
  a35 := Try.isAgg260
  z35 := Try.sizeOf260
  v35 := Try.zeroValue260
  t36 := Try.underlying261
  a36 := Try.isAgg261
  z36 := Try.sizeOf261
  v36 := Try.zeroValue261
  t41 := Try.underlying119
  a41 := Try.isAgg119
  z41 := Try.sizeOf119
  v41 := Try.zeroValue119
  t44 := Try.underlying236
  a44 := Try.isAgg236
  z44 := Try.sizeOf236
  v44 := Try.zeroValue236
  t46 := Try.underlying239
  a46 := Try.isAgg239
  z46 := Try.sizeOf239
  v46 := Try.zeroValue239
  t53 := Try.underlying273
  a53 := Try.isAgg273
  z53 := Try.sizeOf273
  v53 := Try.zeroValue273
  t57 := Try.underlying277
  a57 := Try.isAgg277
  z57 := Try.sizeOf277
  v57 := Try.zeroValue277
  t63 := Try.underlying289
  a63 := Try.isAgg289
  z63 := Try.sizeOf289
  v63 := Try.zeroValue289
  t64 := Try.underlying290
  a64 := Try.isAgg290
  z64 := Try.sizeOf290
  v64 := Try.zeroValue290 }
theorem ksrs_in (m : Nat) : AnyZ.SortsIn Try.prog sts_ren Fence.wide m :=
  ⟨fun blk off cap ss W hH hblk hsz => callsIn_wide.2 (AnyM.slices_Sort_string srs blk off cap ss W hH hblk hsz),
   fun p cap W => callsIn_wide.2 (AnyM.slices_Sort_string_none srs p cap W)⟩
theorem kkeys_c {E w : World} {R : List Hp} (H : Has E w [R]) (mb : Nat) : Calls Try.prog 134 #[.map (some mb)] w fun e w' => ∃ b, e = .returned (.func (.func 169) #[] #[.pointer (some ⟨b, 0, none⟩)]) ∧ Has E w' [[Hp.one b (.cells #[.map (some mb)] 162 (0, 0))], R] := by
  refine (callsIn_wide.1 (AnyZ.keys_in kys Fence.wide 5 trivial rfl (some mb) w)).mono fun e w' ⟨he, hw⟩ => ⟨w.heap.size, he, ?_⟩
  rw [hw]
  exact H.alloc _
set_option maxRecDepth 100000 in
theorem MapV.ownsS {β : Type} {f : β → Value} {es : Array MapEntry} {c : Nat} {lo : List (Bs × β)} (h : MapV S f es c lo) {w : World} {b : Nat} (hb : w.heap[b]? = some (.map es c)) {k : TypeId} (hk : Try.prog.underlying k = some .string)
    (hw : ∀ p ∈ lo, p.1.length ≤ maxLen) (hn : lo.length ≤ 1000000) : ∃ D : DataW Nat, w.ownsMap Try.prog k (fun _ => some (.lit (.bool true), [])) b lo.length D ∧ Maps.size D = lo.length ∧ (strKeys D).Perm (lo.map (·.1)) := by
  have hkey : ∀ x ∈ es.toList, ∃ p ∈ lo, x.key = S p.1 := fun x hx => by
    have : x.key ∈ es.toList.map (·.key) := List.mem_map.2 ⟨x, hx, rfl⟩
    rw [h.keys] at this
    obtain ⟨p, hp, e⟩ := List.mem_map.1 this
    exact ⟨p, hp, e.symm⟩
  have hrd : ∀ x ∈ es.toList, ∃ p ∈ lo, x.key = S p.1 ∧ Go.WideElems.rd (H := Nat) Try.prog k (fun _ => some (.lit (.bool true), [])) x = some (.string p.1, .lit (.bool true)) := fun x hx => by
    obtain ⟨p, hp, e⟩ := hkey x hx
    refine ⟨p, hp, e, ?_⟩
    unfold Go.WideElems.rd
    rw [e, S, Go.WideMaps.keyOf_string_mk hk (by simpa [ByteArray.size] using hw p hp)]; rfl
  have hsz := h.size
  refine ⟨.map ((es.toList.map (Go.WideElems.rg Try.prog k (fun _ => some (.lit (.bool true), [])))).foldr DataW.insert []), ⟨es, c, hb, ⟨by rw [hsz]; simp only [maxLen]; omega, h.2, fun x hx => by obtain ⟨p, _, _, e⟩ := hrd x hx; exact ⟨_, e⟩⟩, by omega, rfl⟩, ?_, ?_⟩
  · show List.length _ = _
    rw [(Go.WideShapes.sorted_perm _).length_eq, List.length_map]; simpa using hsz
  · show (List.map (fun p : Lit × DataW Nat => strOf p.1) _).Perm _
    refine ((Go.WideShapes.sorted_perm _).map _).trans ?_
    rw [List.map_map]
    have e1 : es.toList.map ((fun p : Lit × DataW Nat => strOf p.1) ∘ Go.WideElems.rg Try.prog k (fun _ => some (.lit (.bool true), []))) = es.toList.map (fun x => match x.key with | .string s => s.data.toList | _ => []) := List.map_congr_left fun x hx => by
      obtain ⟨p, _, e, g⟩ := hrd x hx
      show strOf (Go.WideElems.rg _ _ _ x).1 = _
      unfold Go.WideElems.rg
      rw [g, e]; simp [S, strOf]
    have e2 : es.toList.map (fun x => match x.key with | .string s => s.data.toList | _ => []) = lo.map (·.1) := by
      have := congrArg (List.map (fun v : Value => match v with | .string s => s.data.toList | _ => ([] : List UInt8))) h.keys
      rw [List.map_map, List.map_map] at this
      refine this.trans (List.map_congr_left fun p _ => ?_)
      simp [S]
    rw [e1, e2]
theorem ksorted_c {β : Type} {E w : World} {R : List Hp} {b mb c : Nat} {es : Array MapEntry} {lo : List (Bs × β)} {f : β → Value} (H : Has E w [[Hp.one b (.cells #[.map (some mb)] 162 (0, 0))], R]) (hmb : Hp.one mb (.map es c) ∈ R) (hm : MapV S f es c lo)
    (hw : ∀ p ∈ lo, p.1.length ≤ maxLen) (hn : lo.length ≤ 1000000) :
    Calls Try.prog 133 #[.func (.func 169) #[] #[.pointer (some ⟨b, 0, none⟩)]] w fun e w' => ∃ v hs, e = .returned v ∧ Own 9 1 v ((lo.map (·.1)).mergeSort (fun x y => decide (x ≤ y))).length (((lo.map (·.1)).mergeSort (fun x y => decide (x ≤ y))).map sV) hs ∧ Has E w' [hs, [Hp.one b (.cells #[.map (some mb)] 162 (0, 0))], R] := by
  have hb1 : w.heap[b]? = some (.cells #[.map (some mb)] 162 (0, 0)) := H.at (h := Hp.one b (.cells #[.map (some mb)] 162 (0, 0))) (by simp) (Hp.one_at _ _)
  have hb2 : w.heap[mb]? = some (.map es c) := H.at (h := Hp.one mb (.map es c)) (by simp [hmb]) (Hp.one_at _ _)
  obtain ⟨D, hown, hsz, hperm⟩ := hm.ownsS hb2 (k := 9) Try.underlying9 hw hn
  have hlt : b < w.heap.size := (Array.getElem?_eq_some_iff.1 hb1).1
  have hseq : SeqGives Fence.wide 2 Try.prog 169 #[.pointer (some ⟨b, 0, none⟩)] encStr (fun ss => ss.Perm (strKeys D)) (Maps.size D) w :=
    AnyZ.keys_gives (ρ := kys_ren) { kys with } Fence.wide _ trivial rfl (by omega) b mb lo.length D w hlt (by simp [World.cell?, hb1]) hown
  have hs := AnyZ.sorted_in sts Fence.wide 5 trivial trivial trivial trivial rfl (by omega) (ksrs_in _) (enters_of Try.func168 (by kernel_rfl) rfl) 169 #[.pointer (some ⟨b, 0, none⟩)] trivial (enters_of Try.func169 (by kernel_rfl) rfl) _ (Maps.size D) (by simp only [maxLen]; omega) (by omega) w hseq
  refine (callsIn_wide.1 hs).mono fun e w' ⟨v, ss, he, hp, hrow, _, hbl⟩ => ?_
  obtain ⟨hs', ho, hH⟩ := H.row hbl hrow
  have e1 : ss.mergeSort (fun x y => decide (x ≤ y)) = (lo.map (·.1)).mergeSort (fun x y => decide (x ≤ y)) := mergeSort_of_perm (hp.trans hperm)
  have hl : ss.length = ((lo.map (·.1)).mergeSort (fun x y => decide (x ≤ y))).length := by rw [← e1, List.length_mergeSort]
  rw [e1, hl] at ho
  exact ⟨v, hs', he, ho, hH⟩
theorem kdir_c {σ : Type} {E w : World} {R : List Hp} {b mb : Nat} {Rd : List Hp → Nat → σ → Prop} {t : List (Bs × σ)} (H : Has E w [[Hp.one b (.cells #[.map (some mb)] 162 (0, 0))], R]) (hd : DirRd S Rd R mb t)
    (hw : ∀ p ∈ t, p.1.length ≤ 1000000) (hn : t.length ≤ 1000000) :
    Calls Try.prog 133 #[.func (.func 169) #[] #[.pointer (some ⟨b, 0, none⟩)]] w fun e w' => ∃ v hs, e = .returned v ∧ Own 9 1 v ((t.map (·.1)).mergeSort (fun x y => decide (x ≤ y))).length (((t.map (·.1)).mergeSort (fun x y => decide (x ≤ y))).map sV) hs ∧ Has E w' [hs, [Hp.one b (.cells #[.map (some mb)] 162 (0, 0))], R] := by
  obtain ⟨es, c, L, h1, h2, _, rfl⟩ := hd
  rw [what_keys]
  refine ksorted_c H h1 h2 (fun p hp => ?_) (by have := congrArg List.length (what_keys L); simp only [List.length_map] at this; omega)
  have : p.1 ∈ (what L).map (·.1) := by rw [what_keys]; exact List.mem_map.2 ⟨p, hp, rfl⟩
  obtain ⟨q, hq, e⟩ := List.mem_map.1 this
  rw [← e]; exact Nat.le_trans (hw q hq) (by decide)
end Go.Q
namespace Go.Q
section
variable {P : Program} {E w : World} {ss : List (List Hp)} {N : Nat} {r : Nat → Value}
theorem run_loadVarN {t : TypeId} {d : TypeDesc} {L : List Hp} {b off : Nat} {cs : List Value} {z : Value} {by_ : Nat} (ht : P.underlying t = some d) (hd : aggB d = true)
    (hi : TI P t z cs.length by_) (H : Has E w ss) (hL : L ⊆ ss.flatten) (hc : CellsAt L b off cs) : (loadVar t ⟨b, off, none⟩).run P w = .ok (.agg cs.toArray) w := by
  simp only [Sem.run_bind, Sem.run_pure, Result.andThen_ok, loadVar, run_isAgg ht, hd, if_true, hi.size]
  rw [run_loadCells_list (P := P) (w := w) ⟨b, off, none⟩ cs (fun j v hv => by rw [add_lit]; exact H.cell hL hc hv)]
  rfl
theorem c_retC1 {fn : Func} {R : Ending → World → Prop} {t : Tmp} {T : TypeId} {a : Addr} {v : Value} (hr : fn.results = #[.cell t T]) (hv : ev N r (.tmp t) = .pointer (some a)) (hl : (loadVar T a).run P w = .ok v w) (hR : R (.returned v) w) :
    bodyPost P fn R .ret (Go.Q.fr N r) w := by
  refine bodyPost_ret (v := v) ?_ rfl hR
  have e : ∀ t, (Go.Q.fr N r).tmps[t]?.getD undef = ev N r (.tmp t) := fun t => by rw [← getD_fr, Array.getD_eq_getD_getElem?]
  simp [results, hr, e, hv, asAddr, hl]
theorem c_retC2 {fn : Func} {R : Ending → World → Prop} {t u : Tmp} {T : TypeId} {a : Addr} {v x : Value} (hr : fn.results = #[.cell t T, .tmp u]) (hv : ev N r (.tmp t) = .pointer (some a)) (hl : (loadVar T a).run P w = .ok v w) (hx : ev N r (.tmp u) = x)
    (hR : R (.returned (.tuple #[v, x])) w) : bodyPost P fn R .ret (Go.Q.fr N r) w := by
  refine bodyPost_ret (v := .tuple #[v, x]) ?_ rfl hR
  have e : ∀ t, (Go.Q.fr N r).tmps[t]?.getD undef = ev N r (.tmp t) := fun t => by rw [← getD_fr, Array.getD_eq_getD_getElem?]
  simp [results, hr, e, hv, asAddr, hl, hx]
theorem c_retC3 {fn : Func} {R : Ending → World → Prop} {t u s : Tmp} {T : TypeId} {a : Addr} {v x y : Value} (hr : fn.results = #[.cell t T, .tmp u, .tmp s]) (hv : ev N r (.tmp t) = .pointer (some a)) (hl : (loadVar T a).run P w = .ok v w) (hx : ev N r (.tmp u) = x) (hy : ev N r (.tmp s) = y)
    (hR : R (.returned (.tuple #[v, x, y])) w) : bodyPost P fn R .ret (Go.Q.fr N r) w := by
  refine bodyPost_ret (v := .tuple #[v, x, y]) ?_ rfl hR
  have e : ∀ t, (Go.Q.fr N r).tmps[t]?.getD undef = ev N r (.tmp t) := fun t => by rw [← getD_fr, Array.getD_eq_getD_getElem?]
  simp [results, hr, e, hv, asAddr, hl, hx, hy]
end
end Go.Q
namespace Go.Q
open Go.Proofs
set_option linter.unusedVariables false
set_option maxRecDepth 100000
attribute [local irreducible] wpList OK Code.wp
def TbAt (b : Nat) (sg : List Hp) (v : TabS) : Prop := ∃ (x0 : Nat) (h0 : List Hp), sg = ([Hp.one b (.cells #[(.map (some x0))] 164 (0, 0))] ++ h0) ∧ (DirAt S EntAt x0 h0 v.keys)
def TbRd (R : List Hp) (b : Nat) (v : TabS) : Prop := ∃ (x0 : Nat), CellsAt R b 0 [(.map (some x0))] ∧ (DirRd S EntRd R x0 v.keys)
theorem TbAt.mk {b : Nat} {v : TabS} {x0 : Nat} {h0 : List Hp} (f0 : DirAt S EntAt x0 h0 v.keys) : TbAt b (([Hp.one b (.cells #[(.map (some x0))] 164 (0, 0))] ++ h0)) v := ⟨_, _, rfl, f0⟩
theorem TbRd.mk {R : List Hp} {b : Nat} {v : TabS} {x0 : Nat} (hc : CellsAt R b 0 [(.map (some x0))]) (f0 : DirRd S EntRd R x0 v.keys) : TbRd R b v := ⟨_, hc, f0⟩
theorem TbRd.mono {R R' : List Hp} {b : Nat} {v : TabS} (h : TbRd R b v) (hs : R ⊆ R') : TbRd R' b v := by
  obtain ⟨x0, hc, f0⟩ := h
  exact TbRd.mk (hc.mono hs) (DirRd.mono (Rd := EntRd) EntRd.mono f0 hs)
theorem TbAt.rd {b : Nat} {sg : List Hp} {v : TabS} (h : TbAt b sg v) : TbRd sg b v := by
  obtain ⟨x0, h0, rfl, f0⟩ := h
  exact TbRd.mk ((CellsAt.one rfl).mono (fun _ g_ => List.mem_append_left _ g_)) (DirRd.mono (Rd := EntRd) EntRd.mono (DirAt.rd (Rd := EntRd) EntRd.mono EntAt.rd f0) (fun _ g_ => List.mem_append_right _ (g_)))
set_option maxHeartbeats 4000000 in
theorem names_c {E w : World} {R : List Hp} {tb : Nat} {v : TabS}  (hH : Has E w [R]) (h_tb : TbRd R tb v) (hkl : ∀ p_ ∈ v.keys, p_.1.length ≤ 1000) (hkn : v.keys.length ≤ 1000) :
    Calls Try.prog 95 #[(.pointer (some ⟨tb, 0, none⟩))] w fun e w' => ∃ (v1' : Value) (s2' : List Hp), e = .returned v1' ∧ (Own 9 1 v1' (namesS v.keys).length ((namesS v.keys).map sV) s2') ∧ Has E w' [s2', R] := by
  obtain ⟨x1, hc3, f2⟩ := h_tb
  refine c_enter (args := [(.pointer (some ⟨tb, 0, none⟩))]) Try.func95 rfl Try.ntmps95 (by simp) ?_
  refine wp_seq_k fun K4 hK4 => ?_
  refine c_region ?_
  refine s_op (o_assign (v := (.slice none 0 0)) rfl ?_)
  refine s_nil ?_
  refine t_norm (hK4 _ _ ?_)
  refine wp_seq_k fun K5 hK5 => ?_
  refine wp_seq_k fun K6 hK6 => ?_
  refine c_region ?_
  refine s_op (o_move (v := (.pointer (some ⟨tb, 0, none⟩))) rfl ?_)
  refine s_op (o_pnil (p := some _) Try.underlying68 rfl rfl ?_)
  refine s_nil ?_
  refine t_norm (hK6 _ _ ?_)
  refine c_false rfl rfl ?_
  refine wp_skip ?_
  refine t_norm (hK5 _ _ ?_)
  refine wp_seq_k fun K7 hK7 => ?_
  refine c_region ?_
  refine s_op (o_move (v := (.pointer (some ⟨tb, 0, none⟩))) rfl ?_)
  refine s_op (o_nilCheck rfl ?_)
  refine s_op (o_fieldAddr (k := 0) (fun _ => by kernel_rfl) rfl ?_)
  refine s_op (o_load1 (v := (.map (some x1))) Try.underlying162 rfl rfl hH (seg_sub 0 rfl) (CellsAt.field (k := 0) (ds := [(.map (some x1))]) hc3 rfl) ?_)
  refine s_op (o_callf (vs := #[(.map (some x1))]) ca134 rfl (args1 rfl) (kkeys_c hH.all x1) ?_)
  rintro _ w11 ⟨b8, rfl, hX9⟩
  refine ⟨_, rfl, ?_⟩
  have hH10 : Has E w11 [[Hp.one b8 (.cells #[(.map (some x1))] 162 (0, 0))], R] := hX9.of_all1
  refine s_op (o_callf (vs := #[(.func (.func 169) #[] #[.pointer (some ⟨b8, 0, none⟩)])]) ca133 rfl (args1 rfl) (kdir_c hH10.all1 (DirRd.mono (Rd := EntRd) EntRd.mono f2 (seg_sub 0 rfl)) (fun p_ h_ => Nat.le_trans (hkl p_ h_) (by decide)) (by omega)) ?_)
  rintro _ w17 ⟨v12, s13, rfl, ho14, hX15⟩
  refine ⟨_, rfl, ?_⟩
  have hH16 : Has E w17 [s13, [Hp.one b8 (.cells #[(.map (some x1))] 162 (0, 0))], R] := hX15.of_all2
  refine s_op (o_assign (v := v12) rfl ?_)
  refine s_nil ?_
  refine t_norm (hK7 _ _ ?_)
  refine wp_ret ?_
  refine c_ret1 Try.results95  (v := v12) rfl ?_
  have hH18 : Has E w17 [s13, R] := ((hH16.front 2 rfl).front 1 rfl).first 2 rfl
  exact ⟨_, _, rfl, ho14, hH18⟩
set_option maxHeartbeats 4000000 in
theorem waits_c {E w : World} {R : List Hp} {tb : Nat} {v : TabS} {o : Int}  (hH : Has E w [R]) (h_tb : TbRd R tb v) (hkl : ∀ p_ ∈ v.keys, p_.1.length ≤ 1000) (hkn : v.keys.length ≤ 1000) :
    Calls Try.prog 44 #[(.pointer (some ⟨tb, 0, none⟩)), (.int .i64 o)] w fun e w' => e = .returned (.tuple #[(.agg #[(S (((waitsS v.keys o).map (·.key)).getD [])), (.bool (((waitsS v.keys o).map (·.wr)).getD false))]), (.bool ((waitsS v.keys o).isSome))]) ∧ Has E w' [R] := by
  have hks_ := names_len v.keys
  obtain ⟨x1, hc3, f2⟩ := h_tb
  refine c_enter (args := [(.pointer (some ⟨tb, 0, none⟩)), (.int .i64 o)]) Try.func44 rfl Try.ntmps44 (by simp) ?_
  refine wp_seq_k fun K4 hK4 => ?_
  refine c_region ?_
  refine s_op (o_alloc (cs := #[(S ([] : List UInt8)), (.bool false)]) ti74 rfl hH fun b5 w6 hH7 => ?_)
  refine s_op (o_assign (v := (.bool false)) rfl ?_)
  refine s_nil ?_
  refine t_norm (hK4 _ _ ?_)
  refine wp_seq_k fun K8 hK8 => ?_
  refine wp_seq_k fun K9 hK9 => ?_
  refine c_region ?_
  refine s_op (o_move (v := (.pointer (some ⟨tb, 0, none⟩))) rfl ?_)
  refine s_op (o_callf (vs := #[(.pointer (some ⟨tb, 0, none⟩))]) ca95 rfl (args1 rfl) (names_c (v := v) hH7.all ((TbRd.mk hc3 f2).mono (seg_sub 1 rfl)) (by first | omega | (simp only []; omega) | (simp; done) | (simp; omega)) (by first | omega | (simp only []; omega) | (simp; done) | (simp; omega))) ?_)
  rintro _ w15 ⟨v10, s11, rfl, ho12, hX13⟩
  refine ⟨_, rfl, ?_⟩
  have hH14 : Has E w15 [s11, [Hp.one b5 (.cells #[(S ([] : List UInt8)), (.bool false)] 74 (0, 0))], R] := hX13.of_all1
  refine s_op (o_lenS Try.underlying53 rfl ho12.sl ?_)
  refine s_op (o_move (v := (.int .i64 0)) rfl ?_)
  refine s_nil ?_
  refine t_norm (hK9 _ _ ?_)
  refine wp_block ?_
  let I17 : Nat → (Nat → Value) → World → Prop := fun n__ r__ w__ => ∃ (k : Nat), n__ = (namesS v.keys).length - k ∧ Has E w__ [s11, [Hp.one b5 (.cells #[(S ([] : List UInt8)), (.bool false)] 74 (0, 0))], R] ∧ (k ≤ (namesS v.keys).length) ∧ (∀ j, j < k → ∀ y, (namesS v.keys)[j]? = some y → (entOf v.keys y).line.find? (ownIs o) = none) ∧ r__ 0 = (.pointer (some ⟨tb, 0, none⟩)) ∧ r__ 1 = (.int .i64 o) ∧ r__ 4 = (.pointer (some ⟨b5, 0, none⟩)) ∧ r__ 11 = v10 ∧ r__ 12 = (.int .i64 (((namesS v.keys).length : Nat) : Int)) ∧ r__ 13 = (.int .i64 (k : Int))
  refine c_loop I17 _ ⟨0, rfl, hH14, Nat.zero_le _, fun j hj => by omega, rfl, rfl, rfl, rfl, rfl, rfl⟩ ?_
  rintro n_ r20 w18 ⟨k, rfl, hH19, hk, hf, e16_0, e16_1, e16_4, e16_11, e16_12, e16_13⟩
  refine wp_seq_k fun K21 hK21 => ?_
  refine c_region ?_
  refine s_op (o_lss (a := (k : Int)) (b := (((namesS v.keys).length : Nat) : Int)) e16_13 e16_12 ?_)
  refine s_nil ?_
  refine t_norm (hK21 _ _ ?_)
  refine wp_seq_k fun K22 hK22 => ?_
  refine c_cond rfl (fun h23 => ?_) (fun h23 => ?_)
  · -- (k : Int) < (((namesS v.keys).length : Nat) : Int)
    refine wp_skip ?_
    refine t_norm (hK22 _ _ ?_)
    refine wp_seq_k fun K24 hK24 => ?_
    refine wp_block ?_
    refine wp_seq_k fun K25 hK25 => ?_
    refine c_region ?_
    obtain ⟨x29, hx30⟩ : ∃ x_, (namesS v.keys)[((k : Int)).toNat]? = some x_ := get_some (by omega)
    refine s_op (o_index1 Try.underlying53 ti9 e16_11 ho12.sl e16_13 (by omega) hx30 fun b26 o27 hc28 => ?_)
    refine s_op (o_load1 (v := (S x29)) Try.underlying9 rfl rfl hH19 (seg_sub 0 rfl) hc28 ?_)
    refine s_op (o_assign (v := (S x29)) rfl ?_)
    refine s_nil ?_
    refine t_norm (hK25 _ _ ?_)
    refine wp_seq_k fun K31 hK31 => ?_
    refine c_region ?_
    refine s_op (o_move (v := (.pointer (some ⟨tb, 0, none⟩))) e16_0 ?_)
    refine s_op (o_nilCheck rfl ?_)
    refine s_op (o_fieldAddr (k := 0) (fun _ => by kernel_rfl) rfl ?_)
    refine s_op (o_load1 (v := (.map (some x1))) Try.underlying162 rfl rfl hH19 (seg_sub 2 rfl) (CellsAt.field (k := 0) (ds := [(.map (some x1))]) hc3 rfl) ?_)
    refine s_op (o_move (v := (S x29)) rfl ?_)
    refine s_op (o_dirRd (k := x29) Try.underlying162 (key_string Try.underlying9) ti165 rfl rfl f2 hH19 (seg_sub 2 rfl) (fun hN32 => ?_) (fun b34 v35 hS33 hr36 => ?_))
    · -- none
      exact (names_get (show (namesS v.keys)[_]? = some x29 from hx30) hN32).elim
    · -- some
      obtain ⟨x37, x38, hc41, f39, f40⟩ := hr36
      have f39_n := f39.le
      have f40_n := f40.le
      refine s_op (o_assign (v := (.pointer (some ⟨b34, 0, none⟩))) rfl ?_)
      refine s_nil ?_
      refine t_norm (hK31 _ _ ?_)
      refine wp_seq_k fun K42 hK42 => ?_
      refine c_region ?_
      refine s_op (o_move (v := (.pointer (some ⟨b34, 0, none⟩))) rfl ?_)
      refine s_op (o_nilCheck rfl ?_)
      refine s_op (o_fieldAddr (k := 1) (fun _ => by kernel_rfl) rfl ?_)
      refine s_op (o_load1 (v := x38) Try.underlying166 rfl rfl hH19 (seg_sub 2 rfl) (CellsAt.field (k := 1) (ds := [x38]) hc41 rfl) ?_)
      refine s_op (o_move (v := (.int .i64 o)) e16_1 ?_)
      refine s_op (o_callf (vs := #[x38, (.int .i64 o)]) ca90 rfl (args2 rfl rfl) (at_c (l := v35.line) (o := o) hH19.all (f40.mono (seg_sub 2 rfl))) ?_)
      rintro _ w45 ⟨rfl, hX43⟩
      refine ⟨_, rfl, ?_⟩
      have hH44 := hX43.of_all
      have := atS_lt v35.line o
      refine s_op (o_assign (v := (.int .i64 (atS v35.line o))) rfl ?_)
      refine s_nil ?_
      refine t_norm (hK42 _ _ ?_)
      refine wp_seq_k fun K46 hK46 => ?_
      refine c_region ?_
      refine s_op (o_move (v := (.int .i64 (atS v35.line o))) rfl ?_)
      refine s_op (o_geq (a := atS v35.line o) (b := 0) rfl rfl ?_)
      refine s_nil ?_
      refine t_norm (hK46 _ _ ?_)
      refine c_cond rfl (fun h47 => ?_) (fun h47 => ?_)
      · -- 0 ≤ atS v35.line o
        refine wp_seq_k fun K48 hK48 => ?_
        refine c_region ?_
        refine s_op (o_move (v := (.pointer (some ⟨b34, 0, none⟩))) rfl ?_)
        refine s_op (o_nilCheck rfl ?_)
        refine s_op (o_fieldAddr (k := 1) (fun _ => by kernel_rfl) rfl ?_)
        refine s_op (o_load1 (v := x38) Try.underlying166 rfl rfl hH44 (seg_sub 2 rfl) (CellsAt.field (k := 1) (ds := [x38]) hc41 rfl) ?_)
        refine s_op (o_move (v := (.int .i64 (atS v35.line o))) rfl ?_)
        obtain ⟨x52, hx53⟩ : ∃ x_, v35.line[(atS v35.line o).toNat]? = some x_ := get_some (by omega)
        refine s_op (o_indexF plC_len Try.underlying166 ti170 rfl f40 rfl rfl (by omega) hx53 fun b49 o50 hc51 => ?_)
        refine s_op (o_fieldAddr (k := o50) (fun _ => by kernel_rfl) rfl ?_)
        refine s_op (o_loadN (cs := [(S x52.key), (.bool x52.wr)]) Try.underlying74 rfl ti74 rfl hH44 (seg_sub 2 rfl) (CellsAt.field (k := 0) (ds := [(S x52.key), (.bool x52.wr)]) hc51 rfl) ?_)
        refine s_eff (o_storeN (vs := [(S x52.key), (.bool x52.wr)]) (c' := #[(S x52.key), (.bool x52.wr)]) ti74 e16_4 rfl rfl rfl (by intro u hu; simp only [List.mem_cons, List.not_mem_nil, or_false] at hu; rcases hu with rfl | rfl <;> first | rfl) (by simp) (by kernel_rfl) (hH44.front 1 rfl) fun w54 hH55 => ?_)
        refine s_op (o_assign (v := (.bool true)) rfl ?_)
        refine s_nil ?_
        refine t_norm (hK48 _ _ ?_)
        refine wp_ret ?_
        refine b_ret (t_ret (t_ret (b_ret (t_ret (c_retC2 Try.results44 e16_4 (run_loadVarN (cs := [(S x52.key), (.bool x52.wr)]) Try.underlying74 rfl ti74 hH55 (seg_sub 0 rfl) (CellsAt.one rfl)) (x := (.bool true)) rfl ?_)))))
        have hw_ : waitsS v.keys o = some x52 := waits_some hf (show (namesS v.keys)[k]? = some _ from hx30) (by rw [ent_some hS33]; exact at_pos h47 (show v35.line[(atS v35.line o).toNat]? = some _ from hx53))
        have q56 : (((waitsS v.keys o).map (·.key)).getD []) = x52.key := by rw [hw_]; rfl
        have q57 : (((waitsS v.keys o).map (·.wr)).getD false) = x52.wr := by rw [hw_]; rfl
        have q58 : (waitsS v.keys o).isSome = true := by rw [hw_]; rfl
        have hH59 : Has E w54 [R] := (hH55.front 2 rfl).first 1 rfl
        exact ⟨by rw [q56, q57]; rw [q58], hH59⟩
      · -- not: 0 ≤ atS v35.line o
        refine wp_skip ?_
        refine b_norm ?_
        refine t_norm (hK24 _ _ ?_)
        refine c_region ?_
        refine s_op (o_add (a := (k : Int)) (b := 1) e16_13 rfl (w64 (by omega) (by omega)) ?_)
        refine s_op (o_move (v := (.int .i64 ((k : Int) + 1))) rfl ?_)
        refine s_nil ?_
        refine t_norm ⟨(namesS v.keys).length - (k + 1), _, rfl, ?_, ?_⟩
        · omega
        · exact ⟨(k + 1), rfl, hH44, (by omega), ((fun j hj y hy => by rcases Nat.lt_or_ge j k with g | g; exact hf j g y hy; obtain rfl : j = k := (by omega); have e_ := hy.symm.trans (show (namesS v.keys)[j]? = some _ from hx30); cases e_; rw [ent_some hS33]; exact at_neg h47)), e16_0, e16_1, e16_4, e16_11, e16_12, rfl⟩
  · -- not: (k : Int) < (((namesS v.keys).length : Nat) : Int)
    refine wp_exit ?_
    refine t_exit (t_exit (x_in (?_)))
    refine t_norm (hK8 _ _ ?_)
    refine wp_seq_k fun K60 hK60 => ?_
    refine c_region ?_
    refine s_op (o_sight (v := (.agg #[(S ([] : List UInt8)), (.bool false)])) (fun _ => by kernel_rfl) ?_)
    refine s_eff (o_storeN (vs := [(S ([] : List UInt8)), (.bool false)]) (c' := #[(S ([] : List UInt8)), (.bool false)]) ti74 e16_4 rfl rfl rfl (by intro u hu; simp only [List.mem_cons, List.not_mem_nil, or_false] at hu; rcases hu with rfl | rfl <;> first | rfl) (by simp) (by kernel_rfl) (hH19.front 1 rfl) fun w61 hH62 => ?_)
    refine s_op (o_assign (v := (.bool false)) rfl ?_)
    refine s_nil ?_
    refine t_norm (hK60 _ _ ?_)
    refine wp_ret ?_
    refine c_retC2 Try.results44 e16_4 (run_loadVarN (cs := [(S ([] : List UInt8)), (.bool false)]) Try.underlying74 rfl ti74 hH62 (seg_sub 0 rfl) (CellsAt.one rfl)) (x := (.bool false)) rfl ?_
    have hw_ : waitsS v.keys o = none := waits_none fun j y hy => hf j (by have := (List.getElem?_eq_some_iff.1 hy).1; omega) y hy
    have q63 : (((waitsS v.keys o).map (·.key)).getD []) = ([] : List UInt8) := by rw [hw_]; rfl
    have q64 : (((waitsS v.keys o).map (·.wr)).getD false) = false := by rw [hw_]; rfl
    have q65 : (waitsS v.keys o).isSome = false := by rw [hw_]; rfl
    have hH66 : Has E w61 [R] := (hH62.front 2 rfl).first 1 rfl
    exact ⟨by rw [q63, q64]; rw [q65], hH66⟩
end Go.Q
namespace Go.Q
/-- a row of one's own, or one without room that lies elsewhere -/
def OwnP (e : TypeId) (sz : Nat) (v : Value) (n : Nat) (cs : List Value) (hs : List Hp) : Prop := Own e sz v n cs hs ∨ (n = 0 ∧ cs = [] ∧ hs = [] ∧ ∃ b o, v = .slice (some ⟨b, o, none⟩) 0 0)
theorem OwnP.own {e : TypeId} {sz n : Nat} {v : Value} {cs : List Value} {hs : List Hp} (h : OwnP e sz v n cs hs) (hn : 0 < n) : Own e sz v n cs hs := by
  rcases h with h | ⟨h, _⟩
  · exact h
  · omega
section ops
variable {P : Program} {ρ : Operand → Value} {E w : World} {ss : List (List Hp)} {K : Value → World → Prop} {dst : Option Tmp} {T : TypeId} {pos : String} {after : Array Edge} {g : Option (Nat × Bool)}
theorem o_append_z {x y : Operand} {t e : TypeId} {z u : Value} {b off sz by_ m : Nat} {ds : List Value} {L2 : List Hp} (ht : P.underlying t = some (.slice e)) (hi : TI P e z sz by_)
    (hz : z.cells.size = sz) (hsz : 0 < sz) (hx : ρ x = .slice (some ⟨b, off, none⟩) 0 0) (hy : ρ y = u) (hu : Sl L2 sz u m ds) (H : Has E w ss) (hL2 : L2 ⊆ ss.flatten)
    (hb : m * by_ ≤ 140737488355328) (h63 : m ≤ 9223372036854775807)
    (hK : ∀ v' hs' w', OwnP e sz v' m ds hs' → Has E w' (hs' :: ss) → K v' w') :
    OK P ⟨dst, .call ⟨.builtin .append, #[x, y], #[t, t]⟩, T, pos, after, g⟩ ρ w K := by
  obtain ⟨i, hi, hiz, hisz, hiby⟩ := hi
  obtain ⟨q, cap, rfl, hnc, hcm, hl, hq⟩ := hu
  by_cases hm : m = 0
  · subst hm
    have hds : ds = [] := by simpa using hl
    subst hds
    refine o_call_builtin (v := .slice (some ⟨b, off, none⟩) 0 0) (w' := w) ?_ (hK _ [] w (.inr ⟨rfl, rfl, rfl, _, _, rfl⟩) (Has.nil H))
    cases q <;> simp [hx, hy, builtin, Builtin.append_, run_underlying ht, sizeOf, typeInfo, hi, Builtin.lenOf, Builtin.firstCells, loadCells, loadCellsFrom, storeCells]
  · obtain ⟨b2, off2, rfl, hc2⟩ := hq (by omega)
    obtain ⟨v', w', hr, ho, hg⟩ := run_append_arg_grows (P := P) w t T e i z sz by_ ht hi hiz hisz hiby hz hsz ⟨b, off, none⟩ 0 0 [] (by simp) (fun j u hj => by simp at hj)
      ⟨b2, off2, none⟩ m cap ds hl (fun j u hj => by rw [add_lit]; exact H.cell hL2 hc2 hj) (by omega) (by simpa [maxLen] using h63) (by simpa using hb)
    obtain ⟨hl', ⟨_, h0⟩ | ⟨k, cap'', cur, rfl, hk, hbk, h1, h2, h3, h4⟩⟩ := ho
    · omega
    · have hH : Has E w' ([Hp.one k (.cells cur e (0, 0))] :: ss) := by
        refine Has0.write (an := []) (an' := [Hp.one k (.cells cur e (0, 0))]) (hs := ss.flatten) H hg.os hg.tape hg.output (by simp) (fun j _ => ?_) ?_ (fun j hj _ => hg.block j hj (fun e => by cases e))
        · by_cases hjk : j = k
          · subst hjk; exact .inr hk
          · refine .inl fun h hh => ?_
            rw [List.mem_singleton.1 hh]; unfold Hp.one; rw [if_neg hjk]
        · intro h hh j o hj
          rw [List.mem_singleton.1 hh] at hj
          obtain ⟨rfl, rfl⟩ := Hp.one_some hj
          exact hbk
      refine o_call_builtin (v := .slice (some ⟨k, 0, none⟩) (0 + m) cap'') (w' := w') ?_ (hK _ [Hp.one k (.cells cur e (0, 0))] w' ?_ hH)
      · simp only [hx, hy, builtin, List.map_toArray, List.map_cons, List.map_nil, Sem.run_bind, hr, Result.andThen_ok, Sem.run_pure]
      · simp only [Nat.zero_add, List.nil_append] at *
        exact .inl ⟨hl', .inr ⟨k, cap'', cur, rfl, rfl, h1, h2, h3, h4⟩⟩
theorem o_appendP {x y : Operand} {t e : TypeId} {z v u : Value} {sz by_ n m : Nat} {cs ds : List Value} {hs L : List Hp} (ht : P.underlying t = some (.slice e)) (hi : TI P e z sz by_)
    (hz : z.cells.size = sz) (hsz : 0 < sz) (hx : ρ x = v) (ho : OwnP e sz v n cs hs) (hy : ρ y = u) (hu : Sl L sz u m ds) (H : Has E w (hs :: ss)) (hL : L ⊆ ss.flatten)
    (h1 : ∀ u ∈ ds, u.oneCell' = true) (hb : (n + m) * by_ ≤ 140737488355328) (h63 : n + m ≤ 9223372036854775807) (hm : 0 < m)
    (hK : ∀ v' hs' w', Own e sz v' (n + m) (cs ++ ds) hs' → Has E w' (hs' :: ss) → K v' w') :
    OK P ⟨dst, .call ⟨.builtin .append, #[x, y], #[t, t]⟩, T, pos, after, g⟩ ρ w K := by
  rcases ho with ho | ⟨rfl, rfl, rfl, b, o, rfl⟩
  · exact o_append ht hi hz hsz hx ho hy hu H hL h1 hb h63 hK
  · refine o_append_z ht hi hz hsz hx hy hu H.drop hL (by simpa using hb) (by omega) fun v' hs' w' ho' H' => hK v' hs' w' ?_ H'
    simpa using ho'.own hm
end ops
end Go.Q
namespace Go.Q
open Go.Proofs
set_option linter.unusedVariables false
set_option maxRecDepth 100000
attribute [local irreducible] wpList OK Code.wp
set_option maxHeartbeats 4000000 in
theorem new_c {E w : World} {R : List Hp}   (hH : Has E w [R]) :
    Calls Try.prog 38 #[] w fun e w' => ∃ (b1' : Nat) (sg2' : List Hp), e = .returned (.pointer (some ⟨b1', 0, none⟩)) ∧ (TbAt b1' sg2' (⟨[]⟩ : TabS)) ∧ Has E w' [sg2', R] := by
  refine c_enter (args := []) Try.func38 rfl Try.ntmps38 (by simp) ?_
  refine wp_seq_k fun K1 hK1 => ?_
  refine c_region ?_
  refine s_op (o_assign (v := (.pointer none)) rfl ?_)
  refine s_nil ?_
  refine t_norm (hK1 _ _ ?_)
  refine wp_seq_k fun K2 hK2 => ?_
  refine c_region ?_
  refine s_op (o_makeMap hH fun m3 w4 hH5 => ?_)
  refine s_op (o_sight (v := (.agg #[(.map (some m3))])) (fun _ => by kernel_rfl) ?_)
  refine s_op (o_box (cs := #[(.map (some m3))]) rfl rfl hH5 fun b6 w7 hH8 => ?_)
  refine s_op (o_assign (v := (.pointer (some ⟨b6, 0, none⟩))) rfl ?_)
  refine s_nil ?_
  refine t_norm (hK2 _ _ ?_)
  refine wp_ret ?_
  refine c_ret1 Try.results38  (v := (.pointer (some ⟨b6, 0, none⟩))) rfl ?_
  have hd9 : DirAt S EntAt m3 [Hp.one m3 (.map #[] 0)] [] := DirAt.new
  have hH10 : Has E w7 [([Hp.one b6 (.cells #[(.map (some m3))] 164 (0, 0))] ++ [Hp.one m3 (.map #[] 0)]), R] := Has.cl2 ((hH8.front 1 rfl).front 1 rfl)
  have hd11 : TbAt b6 ([Hp.one b6 (.cells #[(.map (some m3))] 164 (0, 0))] ++ [Hp.one m3 (.map #[] 0)]) (⟨([] : List (Bs × Ent))⟩ : TabS) := TbAt.mk hd9
  have q12 : (⟨[]⟩ : TabS) = (⟨([] : List (Bs × Ent))⟩ : TabS) := by rfl
  exact ⟨_, _, rfl, (by rw [q12]; exact hd11), hH10⟩
set_option maxHeartbeats 4000000 in
theorem holds_c {E w : World} {R : List Hp} {tb : Nat} {v : TabS} {o : Int}  (hH : Has E w [R]) (h_tb : TbRd R tb v) (hkl : ∀ p_ ∈ v.keys, p_.1.length ≤ 1000) (hkn : v.keys.length ≤ 1000) :
    Calls Try.prog 43 #[(.pointer (some ⟨tb, 0, none⟩)), (.int .i64 o)] w fun e w' => ∃ (v1' : Value) (s2' : List Hp), e = .returned v1' ∧ (Own 74 2 v1' (holdsC v.keys o).length ((holdsC v.keys o).flatMap clC) s2') ∧ Has E w' [s2', R] := by
  have hks_ := names_len v.keys
  obtain ⟨x1, hc3, f2⟩ := h_tb
  refine c_enter (args := [(.pointer (some ⟨tb, 0, none⟩)), (.int .i64 o)]) Try.func43 rfl Try.ntmps43 (by simp) ?_
  refine wp_seq_k fun K4 hK4 => ?_
  refine c_region ?_
  refine s_op (o_assign (v := (.slice none 0 0)) rfl ?_)
  refine s_nil ?_
  refine t_norm (hK4 _ _ ?_)
  refine wp_seq_k fun K5 hK5 => ?_
  refine c_region ?_
  refine s_op (o_assign (v := (.slice none 0 0)) rfl ?_)
  refine s_nil ?_
  refine t_norm (hK5 _ _ ?_)
  refine wp_seq_k fun K6 hK6 => ?_
  refine wp_seq_k fun K7 hK7 => ?_
  refine c_region ?_
  refine s_op (o_move (v := (.pointer (some ⟨tb, 0, none⟩))) rfl ?_)
  refine s_op (o_callf (vs := #[(.pointer (some ⟨tb, 0, none⟩))]) ca95 rfl (args1 rfl) (names_c (v := v) hH.all ((TbRd.mk hc3 f2).mono (seg_sub 0 rfl)) (by first | omega | (simp only []; omega) | (simp; done) | (simp; omega)) (by first | omega | (simp only []; omega) | (simp; done) | (simp; omega))) ?_)
  rintro _ w13 ⟨v8, s9, rfl, ho10, hX11⟩
  refine ⟨_, rfl, ?_⟩
  have hH12 : Has E w13 [s9, R] := hX11.of_all1
  refine s_op (o_lenS Try.underlying53 rfl ho10.sl ?_)
  refine s_op (o_move (v := (.int .i64 0)) rfl ?_)
  refine s_nil ?_
  refine t_norm (hK7 _ _ ?_)
  refine wp_block ?_
  let I15 : Nat → (Nat → Value) → World → Prop := fun n__ r__ w__ => ∃ (k : Nat) (vo : Value) (so : List Hp) (out : List (Bs × Bool)), n__ = (namesS v.keys).length - k ∧ Has E w__ [so, s9, R] ∧ (k ≤ (namesS v.keys).length) ∧ (Own 74 2 vo out.length (out.flatMap clC) so) ∧ (out.length ≤ k) ∧ (out = ((namesS v.keys).take k).filterMap (holdC v.keys o)) ∧ r__ 0 = (.pointer (some ⟨tb, 0, none⟩)) ∧ r__ 1 = (.int .i64 o) ∧ r__ 4 = (.slice none 0 0) ∧ r__ 5 = vo ∧ r__ 11 = v8 ∧ r__ 12 = (.int .i64 (((namesS v.keys).length : Nat) : Int)) ∧ r__ 13 = (.int .i64 (k : Int))
  have hH16 : Has E w13 [[], s9, R] := (Has.nil ((hH12.front 1 rfl).front 1 rfl)).first 3 rfl
  refine c_loop I15 _ ⟨0, (.slice none 0 0), [], [], rfl, hH16, Nat.zero_le _, Own.nil 74 2, Nat.le_refl _, rfl, rfl, rfl, rfl, rfl, rfl, rfl, rfl⟩ ?_
  rintro n_ r19 w17 ⟨k, vo, so, out, rfl, hH18, hk, hoo, hol, hf, e14_0, e14_1, e14_4, e14_5, e14_11, e14_12, e14_13⟩
  refine wp_seq_k fun K20 hK20 => ?_
  refine c_region ?_
  refine s_op (o_lss (a := (k : Int)) (b := (((namesS v.keys).length : Nat) : Int)) e14_13 e14_12 ?_)
  refine s_nil ?_
  refine t_norm (hK20 _ _ ?_)
  refine wp_seq_k fun K21 hK21 => ?_
  refine c_cond rfl (fun h22 => ?_) (fun h22 => ?_)
  · -- (k : Int) < (((namesS v.keys).length : Nat) : Int)
    refine wp_skip ?_
    refine t_norm (hK21 _ _ ?_)
    refine wp_seq_k fun K23 hK23 => ?_
    refine wp_block ?_
    refine wp_seq_k fun K24 hK24 => ?_
    refine c_region ?_
    obtain ⟨x28, hx29⟩ : ∃ x_, (namesS v.keys)[((k : Int)).toNat]? = some x_ := get_some (by omega)
    refine s_op (o_index1 Try.underlying53 ti9 e14_11 ho10.sl e14_13 (by omega) hx29 fun b25 o26 hc27 => ?_)
    refine s_op (o_load1 (v := (S x28)) Try.underlying9 rfl rfl hH18 (seg_sub 1 rfl) hc27 ?_)
    refine s_op (o_assign (v := (S x28)) rfl ?_)
    refine s_nil ?_
    refine t_norm (hK24 _ _ ?_)
    refine wp_seq_k fun K30 hK30 => ?_
    refine c_region ?_
    refine s_op (o_move (v := (.pointer (some ⟨tb, 0, none⟩))) e14_0 ?_)
    refine s_op (o_nilCheck rfl ?_)
    refine s_op (o_fieldAddr (k := 0) (fun _ => by kernel_rfl) rfl ?_)
    refine s_op (o_load1 (v := (.map (some x1))) Try.underlying162 rfl rfl hH18 (seg_sub 2 rfl) (CellsAt.field (k := 0) (ds := [(.map (some x1))]) hc3 rfl) ?_)
    refine s_op (o_move (v := (S x28)) rfl ?_)
    refine s_op (o_dirRd (k := x28) Try.underlying162 (key_string Try.underlying9) ti165 rfl rfl f2 hH18 (seg_sub 2 rfl) (fun hN31 => ?_) (fun b33 v34 hS32 hr35 => ?_))
    · -- none
      exact (names_get (show (namesS v.keys)[_]? = some x28 from hx29) hN31).elim
    · -- some
      obtain ⟨x36, x37, hc40, f38, f39⟩ := hr35
      have f38_n := f38.le
      have f39_n := f39.le
      refine s_op (o_assign (v := (.pointer (some ⟨b33, 0, none⟩))) rfl ?_)
      refine s_nil ?_
      refine t_norm (hK30 _ _ ?_)
      refine wp_seq_k fun K41 hK41 => ?_
      refine c_region ?_
      refine s_op (o_move (v := (.pointer (some ⟨b33, 0, none⟩))) rfl ?_)
      refine s_op (o_nilCheck rfl ?_)
      refine s_op (o_fieldAddr (k := 0) (fun _ => by kernel_rfl) rfl ?_)
      refine s_op (o_load1 (v := x36) Try.underlying166 rfl rfl hH18 (seg_sub 2 rfl) (CellsAt.field (k := 0) (ds := [x36]) hc40 rfl) ?_)
      refine s_op (o_move (v := (.int .i64 o)) e14_1 ?_)
      refine s_op (o_callf (vs := #[x36, (.int .i64 o)]) ca90 rfl (args2 rfl rfl) (at_c (l := v34.hold) (o := o) hH18.all (f38.mono (seg_sub 2 rfl))) ?_)
      rintro _ w44 ⟨rfl, hX42⟩
      refine ⟨_, rfl, ?_⟩
      have hH43 := hX42.of_all
      have := atS_lt v34.hold o
      refine s_op (o_assign (v := (.int .i64 (atS v34.hold o))) rfl ?_)
      refine s_nil ?_
      refine t_norm (hK41 _ _ ?_)
      refine wp_seq_k fun K45 hK45 => ?_
      refine c_region ?_
      refine s_op (o_move (v := (.int .i64 (atS v34.hold o))) rfl ?_)
      refine s_op (o_geq (a := atS v34.hold o) (b := 0) rfl rfl ?_)
      refine s_nil ?_
      refine t_norm (hK45 _ _ ?_)
      refine c_cond rfl (fun h46 => ?_) (fun h46 => ?_)
      · -- 0 ≤ atS v34.hold o
        refine c_region ?_
        refine s_op (o_move (v := vo) e14_5 ?_)
        refine s_op (o_move (v := (.pointer (some ⟨b33, 0, none⟩))) rfl ?_)
        refine s_op (o_nilCheck rfl ?_)
        refine s_op (o_fieldAddr (k := 0) (fun _ => by kernel_rfl) rfl ?_)
        refine s_op (o_load1 (v := x36) Try.underlying166 rfl rfl hH43 (seg_sub 2 rfl) (CellsAt.field (k := 0) (ds := [x36]) hc40 rfl) ?_)
        refine s_op (o_move (v := (.int .i64 (atS v34.hold o))) rfl ?_)
        obtain ⟨x50, hx51⟩ : ∃ x_, v34.hold[(atS v34.hold o).toNat]? = some x_ := get_some (by omega)
        refine s_op (o_indexF plC_len Try.underlying166 ti170 rfl f38 rfl rfl (by omega) hx51 fun b47 o48 hc49 => ?_)
        refine s_op (o_fieldAddr (k := o48) (fun _ => by kernel_rfl) rfl ?_)
        refine s_op (o_loadN (cs := [(S x50.key), (.bool x50.wr)]) Try.underlying74 rfl ti74 rfl hH43 (seg_sub 2 rfl) (CellsAt.field (k := 0) (ds := [(S x50.key), (.bool x50.wr)]) hc49 rfl) ?_)
        refine s_op (o_buildSlice (ps := #[(0, (.agg #[(S x50.key), (.bool x50.wr)]))]) (cells := #[(S x50.key), (.bool x50.wr)]) Try.underlying78 ti74 (by decide) (parts1 rfl) (by kernel_rfl) hH43 fun b52 w53 hH54 => ?_)
        refine s_op (o_append Try.underlying78 ti74 rfl (by decide) rfl hoo rfl (sl_litF (f := clC) (l := [(x50.key, x50.wr)]) clC_len rfl rfl (by simp)) (hH54.front 1 rfl) (seg_sub 0 rfl) (one_clC _) (by simp; omega) (by simp; omega) fun v55 s56 w58 ho57 hH59 => ?_)
        have ho57 : Own 74 2 v55 (out ++ [(x50.key, x50.wr)]).length ((out ++ [(x50.key, x50.wr)]).flatMap clC) s56 := ho57.appF
        refine s_op (o_assign (v := v55) rfl ?_)
        refine s_nil ?_
        refine b_norm ?_
        refine t_norm (hK23 _ _ ?_)
        refine c_region ?_
        refine s_op (o_add (a := (k : Int)) (b := 1) e14_13 rfl (w64 (by omega) (by omega)) ?_)
        refine s_op (o_move (v := (.int .i64 ((k : Int) + 1))) rfl ?_)
        refine s_nil ?_
        have hH60 : Has E w58 [s56, s9, R] := (((hH59.front 3 rfl).front 3 rfl).front 2 rfl).first 3 rfl
        refine t_norm ⟨(namesS v.keys).length - (k + 1), _, rfl, ?_, ?_⟩
        · omega
        · exact ⟨(k + 1), v55, s56, (out ++ [(x50.key, x50.wr)]), rfl, hH60, (by omega), (ho57), (by first | omega | (simp only [List.length_append, List.length_cons, List.length_nil]; omega)), (by rw [take_succ_of (show (namesS v.keys)[k]? = some _ from hx29), List.filterMap_append, ← hf]; simp [holdC_yes hS32 h46 (show v34.hold[(atS v34.hold o).toNat]? = some _ from hx51)]), e14_0, e14_1, e14_4, rfl, e14_11, e14_12, rfl⟩
      · -- not: 0 ≤ atS v34.hold o
        refine wp_skip ?_
        refine b_norm ?_
        refine t_norm (hK23 _ _ ?_)
        refine c_region ?_
        refine s_op (o_add (a := (k : Int)) (b := 1) e14_13 rfl (w64 (by omega) (by omega)) ?_)
        refine s_op (o_move (v := (.int .i64 ((k : Int) + 1))) rfl ?_)
        refine s_nil ?_
        refine t_norm ⟨(namesS v.keys).length - (k + 1), _, rfl, ?_, ?_⟩
        · omega
        · exact ⟨(k + 1), vo, so, out, rfl, hH43, (by omega), (hoo), (by first | omega | (simp only [List.length_append, List.length_cons, List.length_nil]; omega)), (by rw [take_succ_of (show (namesS v.keys)[k]? = some _ from hx29), List.filterMap_append, ← hf]; simp [holdC_no hS32 h46]), e14_0, e14_1, e14_4, e14_5, e14_11, e14_12, rfl⟩
  · -- not: (k : Int) < (((namesS v.keys).length : Nat) : Int)
    refine wp_exit ?_
    refine t_exit (t_exit (x_in (?_)))
    refine t_norm (hK6 _ _ ?_)
    refine wp_seq_k fun K61 hK61 => ?_
    refine c_region ?_
    refine s_op (o_move (v := vo) e14_5 ?_)
    refine s_op (o_assign (v := vo) rfl ?_)
    refine s_nil ?_
    refine t_norm (hK61 _ _ ?_)
    refine wp_ret ?_
    refine c_ret1 Try.results43  (v := vo) rfl ?_
    have he_ : k = (namesS v.keys).length := by omega
    have q62 : (holdsC v.keys o) = out := by unfold holdsC; rw [hf, he_, List.take_length]
    have hH63 : Has E w17 [so, R] := ((hH18.front 2 rfl).front 1 rfl).first 2 rfl
    exact ⟨_, _, rfl, (by rw [q62]; exact hoo), hH63⟩
set_option maxHeartbeats 4000000 in
theorem line_c {E w : World} {R : List Hp} {tb : Nat} {v : TabS} {key : Bs}  (hH : Has E w [R]) (h_tb : TbRd R tb v) (hsz : szT v.keys) :
    Calls Try.prog 48 #[(.pointer (some ⟨tb, 0, none⟩)), (S key)] w fun e w' => ∃ (v1' : Value) (s2' : List Hp), e = .returned v1' ∧ (Own 3 1 v1' (linS v.keys key).length ((linS v.keys key).map iV) s2') ∧ Has E w' [s2', R] := by
  obtain ⟨x1, hc3, f2⟩ := h_tb
  refine c_enter (args := [(.pointer (some ⟨tb, 0, none⟩)), (S key)]) Try.func48 rfl Try.ntmps48 (by simp) ?_
  refine wp_seq_k fun K4 hK4 => ?_
  refine c_region ?_
  refine s_op (o_assign (v := (.slice none 0 0)) rfl ?_)
  refine s_nil ?_
  refine t_norm (hK4 _ _ ?_)
  refine wp_seq_k fun K5 hK5 => ?_
  refine c_region ?_
  refine s_op (o_assign (v := (.slice none 0 0)) rfl ?_)
  refine s_nil ?_
  refine t_norm (hK5 _ _ ?_)
  refine wp_seq_k fun K6 hK6 => ?_
  refine wp_seq_k fun K7 hK7 => ?_
  refine c_region ?_
  refine s_op (o_move (v := (.pointer (some ⟨tb, 0, none⟩))) rfl ?_)
  refine s_op (o_pnnil (p := some _) Try.underlying68 rfl rfl ?_)
  refine s_op (o_move (v := (.bool true)) rfl ?_)
  refine s_on 10 rfl rfl (o_move (v := (.pointer (some ⟨tb, 0, none⟩))) rfl ?_)
  refine s_on 10 rfl rfl (o_nilCheck rfl ?_)
  refine s_on 10 rfl rfl (o_fieldAddr (k := 0) (fun _ => by kernel_rfl) rfl ?_)
  refine s_on 10 rfl rfl (o_load1 (v := (.map (some x1))) Try.underlying162 rfl rfl hH (seg_sub 0 rfl) (CellsAt.field (k := 0) (ds := [(.map (some x1))]) hc3 rfl) ?_)
  refine s_on 10 rfl rfl (o_move (v := (S key)) rfl ?_)
  refine s_on 10 rfl rfl (o_dirRd (k := key) Try.underlying162 (key_string Try.underlying9) ti165 rfl rfl f2 hH (seg_sub 0 rfl) (fun hN8 => ?_) (fun b10 v11 hS9 hr12 => ?_))
  · -- none
    refine s_on 10 rfl rfl (o_pnnil (p := none) Try.underlying165 rfl rfl ?_)
    refine s_op (o_pick_t (u := (.bool false)) rfl rfl ?_)
    refine s_nil ?_
    refine t_norm (hK7 _ _ ?_)
    refine c_false rfl rfl ?_
    refine wp_skip ?_
    refine t_norm (hK6 _ _ ?_)
    refine wp_seq_k fun K13 hK13 => ?_
    refine c_region ?_
    refine s_op (o_move (v := (.slice none 0 0)) rfl ?_)
    refine s_op (o_assign (v := (.slice none 0 0)) rfl ?_)
    refine s_nil ?_
    refine t_norm (hK13 _ _ ?_)
    refine wp_ret ?_
    refine c_ret1 Try.results48  (v := (.slice none 0 0)) rfl ?_
    have q14 : (linS v.keys key) = ([] : List Int) := by unfold linS; rw [ent_none hN8]; rfl
    have hH15 : Has E w [[], R] := (Has.nil hH).first 2 rfl
    exact ⟨_, _, rfl, (by rw [q14]; exact (Own.nil 3 1)), hH15⟩
  · -- some
    obtain ⟨x16, x17, hc20, f18, f19⟩ := hr12
    have f18_n := f18.le
    have f19_n := f19.le
    refine s_on 10 rfl rfl (o_pnnil (p := some _) Try.underlying165 rfl rfl ?_)
    refine s_op (o_pick_t (u := (.bool true)) rfl rfl ?_)
    refine s_nil ?_
    refine t_norm (hK7 _ _ ?_)
    refine c_true rfl rfl ?_
    refine wp_seq_k fun K21 hK21 => ?_
    refine c_region ?_
    refine s_op (o_move (v := (.pointer (some ⟨tb, 0, none⟩))) rfl ?_)
    refine s_op (o_nilCheck rfl ?_)
    refine s_op (o_fieldAddr (k := 0) (fun _ => by kernel_rfl) rfl ?_)
    refine s_op (o_load1 (v := (.map (some x1))) Try.underlying162 rfl rfl hH (seg_sub 0 rfl) (CellsAt.field (k := 0) (ds := [(.map (some x1))]) hc3 rfl) ?_)
    refine s_op (o_move (v := (S key)) rfl ?_)
    refine s_op (o_dirRd (k := key) Try.underlying162 (key_string Try.underlying9) ti165 rfl rfl f2 hH (seg_sub 0 rfl) (fun hN22 => ?_) (fun b24 v25 hS23 hr26 => ?_))
    · -- none
      exact absurd (Eq.trans (Eq.symm hS9) hN22) (by simp)
    · -- some
      have e_ : v11 = v25 := Option.some.inj (Eq.trans (Eq.symm hS9) hS23)
      subst e_
      obtain ⟨x27, x28, hc31, f29, f30⟩ := hr26
      have f29_n := f29.le
      have f30_n := f30.le
      refine s_op (o_nilCheck rfl ?_)
      refine s_op (o_fieldAddr (k := 1) (fun _ => by kernel_rfl) rfl ?_)
      refine s_op (o_load1 (v := x28) Try.underlying166 rfl rfl hH (seg_sub 0 rfl) (CellsAt.field (k := 1) (ds := [x28]) hc31 rfl) ?_)
      refine s_op (o_lenS Try.underlying166 rfl f30 ?_)
      refine s_op (o_move (v := (.int .i64 0)) rfl ?_)
      refine s_nil ?_
      refine t_norm (hK21 _ _ ?_)
      refine wp_block ?_
      let I33 : Nat → (Nat → Value) → World → Prop := fun n__ r__ w__ => ∃ (k : Nat) (vo : Value) (so : List Hp) (out : List Int), n__ = v11.line.length - k ∧ Has E w__ [so, R] ∧ (k ≤ v11.line.length) ∧ (Own 3 1 vo out.length (out.map iV) so) ∧ (out.length ≤ k) ∧ (out = (v11.line.take k).map (·.own)) ∧ r__ 0 = (.pointer (some ⟨tb, 0, none⟩)) ∧ r__ 1 = (S key) ∧ r__ 4 = (.slice none 0 0) ∧ r__ 5 = vo ∧ r__ 18 = (.bool true) ∧ r__ 27 = x28 ∧ r__ 28 = (.int .i64 ((v11.line.length : Nat) : Int)) ∧ r__ 29 = (.int .i64 (k : Int))
      have hH34 : Has E w [[], R] := (Has.nil hH).first 2 rfl
      refine c_loop I33 _ ⟨0, (.slice none 0 0), [], [], rfl, hH34, Nat.zero_le _, Own.nil 3 1, Nat.le_refl _, rfl, rfl, rfl, rfl, rfl, rfl, rfl, rfl, rfl⟩ ?_
      rintro n_ r37 w35 ⟨k, vo, so, out, rfl, hH36, hk, hoo, hol, hf, e32_0, e32_1, e32_4, e32_5, e32_18, e32_27, e32_28, e32_29⟩
      refine wp_seq_k fun K38 hK38 => ?_
      refine c_region ?_
      refine s_op (o_lss (a := (k : Int)) (b := ((v11.line.length : Nat) : Int)) e32_29 e32_28 ?_)
      refine s_nil ?_
      refine t_norm (hK38 _ _ ?_)
      refine wp_seq_k fun K39 hK39 => ?_
      refine c_cond rfl (fun h40 => ?_) (fun h40 => ?_)
      · -- (k : Int) < ((v11.line.length : Nat) : Int)
        refine wp_skip ?_
        refine t_norm (hK39 _ _ ?_)
        refine wp_seq_k fun K41 hK41 => ?_
        refine wp_block ?_
        refine wp_seq_k fun K42 hK42 => ?_
        refine c_region ?_
        obtain ⟨x46, hx47⟩ : ∃ x_, v11.line[((k : Int)).toNat]? = some x_ := get_some (by omega)
        refine s_op (o_indexF plC_len Try.underlying166 ti170 e32_27 f30 rfl e32_29 (by omega) hx47 fun b43 o44 hc45 => ?_)
        refine s_op (o_loadN (cs := [(S x46.key), (.bool x46.wr), (.int .i64 x46.own)]) Try.underlying170 rfl ti170 rfl hH36 (seg_sub 1 rfl) hc45 ?_)
        refine s_op (o_alloc (cs := #[(S ([] : List UInt8)), (.bool false), (.int .i64 0)]) ti170 rfl hH36 fun b48 w49 hH50 => ?_)
        refine s_eff (o_storeN (vs := [(S x46.key), (.bool x46.wr), (.int .i64 x46.own)]) (c' := #[(S x46.key), (.bool x46.wr), (.int .i64 x46.own)]) ti170 rfl rfl rfl rfl (by intro u hu; simp only [List.mem_cons, List.not_mem_nil, or_false] at hu; rcases hu with rfl | rfl | rfl <;> first | rfl) (by simp) (by kernel_rfl) (hH50.front 0 rfl) fun w51 hH52 => ?_)
        refine s_nil ?_
        refine t_norm (hK42 _ _ ?_)
        refine c_region ?_
        refine s_op (o_move (v := vo) e32_5 ?_)
        refine s_op (o_fieldAddr (k := 2) (fun _ => by kernel_rfl) rfl ?_)
        refine s_op (o_load1 (v := (.int .i64 x46.own)) Try.underlying3 rfl rfl hH52 (seg_sub 0 rfl) (CellsAt.one rfl) ?_)
        refine s_op (o_buildSlice (ps := #[(0, (.int .i64 x46.own))]) (cells := #[(.int .i64 x46.own)]) Try.underlying54 ti3 (by decide) (parts1 rfl) (by kernel_rfl) hH52 fun b53 w54 hH55 => ?_)
        refine s_op (o_append Try.underlying54 ti3 rfl (by decide) rfl hoo rfl (sl_lit (f := iV) (l := [x46.own]) rfl rfl (by simp)) (hH55.front 2 rfl) (seg_sub 0 rfl) (one_iV _) (by have h9_ := hsz.get (by assumption); simp; omega) (by have h9_ := hsz.get (by assumption); simp; omega) fun v56 s57 w59 ho58 hH60 => ?_)
        have ho58 : Own 3 1 v56 (out ++ [x46.own]).length ((out ++ [x46.own]).map iV) s57 := ho58.app
        refine s_op (o_assign (v := v56) rfl ?_)
        refine s_nil ?_
        refine b_norm ?_
        refine t_norm (hK41 _ _ ?_)
        refine c_region ?_
        refine s_op (o_add (a := (k : Int)) (b := 1) e32_29 rfl (w64 (by omega) (by omega)) ?_)
        refine s_op (o_move (v := (.int .i64 ((k : Int) + 1))) rfl ?_)
        refine s_nil ?_
        have hH61 : Has E w59 [s57, R] := ((hH60.front 3 rfl).front 1 rfl).first 2 rfl
        refine t_norm ⟨v11.line.length - (k + 1), _, rfl, ?_, ?_⟩
        · omega
        · exact ⟨(k + 1), v56, s57, (out ++ [x46.own]), rfl, hH61, (by omega), (ho58), (by first | omega | (simp only [List.length_append, List.length_cons, List.length_nil]; omega)), (by rw [take_succ_of (show v11.line[k]? = some _ from hx47), List.map_append, ← hf]; rfl), e32_0, e32_1, e32_4, rfl, e32_18, e32_27, e32_28, rfl⟩
      · -- not: (k : Int) < ((v11.line.length : Nat) : Int)
        refine wp_exit ?_
        refine t_exit (t_exit (x_in (?_)))
        refine t_norm (hK6 _ _ ?_)
        refine wp_seq_k fun K62 hK62 => ?_
        refine c_region ?_
        refine s_op (o_move (v := vo) e32_5 ?_)
        refine s_op (o_assign (v := vo) rfl ?_)
        refine s_nil ?_
        refine t_norm (hK62 _ _ ?_)
        refine wp_ret ?_
        refine c_ret1 Try.results48  (v := vo) rfl ?_
        have q63 : (linS v.keys key) = out := by (have he_ : k = v11.line.length := by omega); unfold linS; rw [ent_some hS9, hf, he_, List.take_length]
        exact ⟨_, _, rfl, (by rw [q63]; exact hoo), hH36⟩
def idxS (x : Int) : List Int → Int
  | [] => -1
  | y :: l => if x = y then 0 else if idxS x l < 0 then -1 else idxS x l + 1
theorem idx_none {x : Int} : ∀ {l : List Int}, x ∉ l → idxS x l = -1
  | [], _ => rfl
  | y :: l, h => by
    rw [List.mem_cons, not_or] at h
    rw [idxS, if_neg h.1, idx_none h.2]; rfl
theorem idx_at {x y : Int} : ∀ {l : List Int} {k : Nat}, x ∉ l.take k → l[k]? = some y → x = y → idxS x l = k
  | [], _, _, h, _ => by simp at h
  | z :: l, 0, _, h, e => by
    have : z = y := by simpa using h
    rw [idxS, if_pos (by omega)]; rfl
  | z :: l, k + 1, hn, h, e => by
    rw [List.take_succ_cons, List.mem_cons, not_or] at hn
    rw [idxS, if_neg hn.1, idx_at hn.2 (by simpa using h) e, if_neg (by omega)]; omega
theorem idx_dec {x : Int} {l : List Int} : decide (0 ≤ idxS x l) = decide (x ∈ l) := by
  refine decide_eq_decide.2 ⟨fun h => Classical.byContradiction fun n => by rw [idx_none n] at h; omega, fun h => ?_⟩
  induction l with
  | nil => simp at h
  | cons y l ih =>
    rw [idxS]
    by_cases e : x = y
    · rw [if_pos e]; omega
    · rw [if_neg e]
      have := ih ((List.mem_cons.1 h).resolve_left e)
      rw [if_neg (by omega)]; omega
set_option maxHeartbeats 4000000 in
theorem index_c {E w : World} {R : List Hp} (hH : Has E w [R]) {v : Value} {l : List Int} (hv : Ints R v l) (x : Int) :
    Calls Try.prog 146 #[v, (.int .i64 x)] w fun e w' => e = .returned (.int .i64 (idxS x l)) ∧ Has E w' [R] := by
  have hn_ := hv.le
  refine c_enter (args := [v, (.int .i64 x)]) Try.func146 rfl Try.ntmps146 (by simp) ?_
  refine wp_seq_k fun K1 hK1 => ?_
  refine c_region ?_
  refine s_op (o_assign (v := (.int .i64 0)) rfl ?_)
  refine s_nil ?_
  refine t_norm (hK1 _ _ ?_)
  refine wp_seq_k fun K2 hK2 => ?_
  refine wp_seq_k fun K3 hK3 => ?_
  refine c_region ?_
  refine s_op (o_move (v := v) rfl ?_)
  refine s_op (o_lenS Try.underlying54 rfl hv ?_)
  refine s_op (o_move (v := (.int .i64 0)) rfl ?_)
  refine s_nil ?_
  refine t_norm (hK3 _ _ ?_)
  refine wp_block ?_
  let I5 : Nat → (Nat → Value) → World → Prop := fun n__ r__ w__ => ∃ (k : Nat), n__ = l.length - k ∧ Has E w__ [R] ∧ (k ≤ l.length) ∧ (x ∉ l.take k) ∧ r__ 0 = v ∧ r__ 1 = (.int .i64 x) ∧ r__ 7 = (.int .i64 ((l.length : Nat) : Int)) ∧ r__ 8 = (.int .i64 (k : Int))
  refine c_loop I5 _ ⟨0, rfl, hH, Nat.zero_le _, (by simp), rfl, rfl, rfl, rfl⟩ ?_
  rintro n_ r8 w6 ⟨k, rfl, hH7, hk, hn, e4_0, e4_1, e4_7, e4_8⟩
  refine wp_seq_k fun K9 hK9 => ?_
  refine c_region ?_
  refine s_op (o_lss (a := (k : Int)) (b := ((l.length : Nat) : Int)) e4_8 e4_7 ?_)
  refine s_nil ?_
  refine t_norm (hK9 _ _ ?_)
  refine wp_seq_k fun K10 hK10 => ?_
  refine c_cond rfl (fun h11 => ?_) (fun h11 => ?_)
  · -- (k : Int) < ((l.length : Nat) : Int)
    refine wp_skip ?_
    refine t_norm (hK10 _ _ ?_)
    refine wp_seq_k fun K12 hK12 => ?_
    refine wp_block ?_
    refine wp_seq_k fun K13 hK13 => ?_
    refine c_region ?_
    refine s_op (o_move (v := (.int .i64 (k : Int))) e4_8 ?_)
    refine s_op (o_assign (v := (.int .i64 (k : Int))) rfl ?_)
    refine s_nil ?_
    refine t_norm (hK13 _ _ ?_)
    refine wp_seq_k fun K14 hK14 => ?_
    refine c_region ?_
    refine s_op (o_move (v := (.int .i64 x)) e4_1 ?_)
    refine s_op (o_move (v := v) e4_0 ?_)
    refine s_op (o_move (v := (.int .i64 (k : Int))) rfl ?_)
    obtain ⟨x18, hx19⟩ : ∃ x_, l[((k : Int)).toNat]? = some x_ := get_some (by omega)
    refine s_op (o_index1 Try.underlying54 ti3 rfl hv rfl (by omega) hx19 fun b15 o16 hc17 => ?_)
    refine s_op (o_load1 (v := (.int .i64 x18)) Try.underlying3 rfl rfl hH7 (seg_sub 0 rfl) hc17 ?_)
    refine s_op (o_eql (a := x) (b := x18) rfl rfl ?_)
    refine s_nil ?_
    refine t_norm (hK14 _ _ ?_)
    refine c_cond rfl (fun h20 => ?_) (fun h20 => ?_)
    · -- x = x18
      refine wp_seq_k fun K21 hK21 => ?_
      refine c_region ?_
      refine s_op (o_move (v := (.int .i64 (k : Int))) rfl ?_)
      refine s_op (o_assign (v := (.int .i64 (k : Int))) rfl ?_)
      refine s_nil ?_
      refine t_norm (hK21 _ _ ?_)
      refine wp_ret ?_
      refine b_ret (t_ret (t_ret (b_ret (t_ret (c_ret1 Try.results146  (v := (.int .i64 (k : Int))) rfl ?_)))))
      exact ⟨by rw [idx_at hn (show l[k]? = some _ from hx19) h20], hH7⟩
    · -- not: x = x18
      refine wp_skip ?_
      refine b_norm ?_
      refine t_norm (hK12 _ _ ?_)
      refine c_region ?_
      refine s_op (o_add (a := (k : Int)) (b := 1) e4_8 rfl (w64 (by omega) (by omega)) ?_)
      refine s_op (o_move (v := (.int .i64 ((k : Int) + 1))) rfl ?_)
      refine s_nil ?_
      refine t_norm ⟨l.length - (k + 1), _, rfl, ?_, ?_⟩
      · omega
      · exact ⟨(k + 1), rfl, hH7, (by omega), (by rw [take_succ_of (show l[k]? = some _ from hx19)]; exact fun g => (List.mem_append.1 g).elim hn (fun g => h20 (List.mem_singleton.1 g))), e4_0, e4_1, e4_7, rfl⟩
  · -- not: (k : Int) < ((l.length : Nat) : Int)
    refine wp_exit ?_
    refine t_exit (t_exit (x_in (?_)))
    refine t_norm (hK2 _ _ ?_)
    refine wp_seq_k fun K22 hK22 => ?_
    refine c_region ?_
    refine s_op (o_assign (v := (.int .i64 (-1))) rfl ?_)
    refine s_nil ?_
    refine t_norm (hK22 _ _ ?_)
    refine wp_ret ?_
    refine c_ret1 Try.results146  (v := (.int .i64 (-1))) rfl ?_
    have e : k = l.length := by omega
    rw [e, List.take_of_length_le (Nat.le_refl _)] at hn
    exact ⟨by rw [idx_none hn], hH7⟩
set_option maxHeartbeats 4000000 in
theorem contains_c {E w : World} {R : List Hp} (hH : Has E w [R]) {v : Value} {l : List Int} (hv : Ints R v l) (x : Int) :
    Calls Try.prog 109 #[v, (.int .i64 x)] w fun e w' => e = .returned (.bool (decide (x ∈ l))) ∧ Has E w' [R] := by
  have hn_ := hv.le
  refine c_enter (args := [v, (.int .i64 x)]) Try.func109 rfl Try.ntmps109 (by simp) ?_
  refine wp_seq_k fun K1 hK1 => ?_
  refine c_region ?_
  refine s_op (o_assign (v := (.bool false)) rfl ?_)
  refine s_nil ?_
  refine t_norm (hK1 _ _ ?_)
  refine wp_seq_k fun K2 hK2 => ?_
  refine c_region ?_
  refine s_op (o_move (v := v) rfl ?_)
  refine s_op (o_move (v := (.int .i64 x)) rfl ?_)
  refine s_op (o_callf (vs := #[v, (.int .i64 x)]) ca146 rfl (args2 rfl rfl) (index_c hH.all (l := l) (hv.mono (seg_sub 0 rfl)) x) ?_)
  rintro _ w5 ⟨rfl, hX3⟩
  refine ⟨_, rfl, ?_⟩
  have hH4 := hX3.of_all
  refine s_op (o_geq (a := idxS x l) (b := 0) rfl rfl ?_)
  refine s_op (o_assign (v := (.bool (decide (0 ≤ idxS x l)))) rfl ?_)
  refine s_nil ?_
  refine t_norm (hK2 _ _ ?_)
  refine wp_ret ?_
  refine c_ret1 Try.results109  (v := (.bool (decide (0 ≤ idxS x l)))) rfl ?_
  exact ⟨by rw [idx_dec], hH4⟩
set_option maxHeartbeats 4000000 in
theorem gone_c {E w : World} {R : List Hp} {p : Plc} {xb : Nat}  {v_ow : Value} {ow : List Int}  (hH : Has E w [R]) (h_xb : CellsAt R xb 0 [v_ow]) (h_ow : Sl R 1 v_ow ow.length (ow.map iV)) :
    Calls Try.prog 130 #[(.agg #[(S p.key), (.bool p.wr), (.int .i64 p.own)]), (.pointer (some ⟨xb, 0, none⟩))] w fun e w' => e = .returned (.bool (goneS ow p)) ∧ Has E w' [R] := by
  refine c_enter (args := [(.agg #[(S p.key), (.bool p.wr), (.int .i64 p.own)]), (.pointer (some ⟨xb, 0, none⟩))]) Try.func130 rfl Try.ntmps130 (by simp) ?_
  refine wp_seq_k fun K1 hK1 => ?_
  refine c_region ?_
  refine s_op (o_box (cs := #[(S p.key), (.bool p.wr), (.int .i64 p.own)]) rfl rfl hH fun b2 w3 hH4 => ?_)
  refine s_op (o_assign (v := (.bool false)) rfl ?_)
  refine s_nil ?_
  refine t_norm (hK1 _ _ ?_)
  refine wp_seq_k fun K5 hK5 => ?_
  refine c_region ?_
  refine s_op (o_load1 (v := v_ow) Try.underlying54 rfl rfl hH4 (seg_sub 1 rfl) h_xb ?_)
  refine s_op (o_fieldAddr (k := 2) (fun _ => by kernel_rfl) rfl ?_)
  refine s_op (o_load1 (v := (.int .i64 p.own)) Try.underlying3 rfl rfl hH4 (seg_sub 0 rfl) (CellsAt.one rfl) ?_)
  refine s_op (o_callf (vs := #[v_ow, (.int .i64 p.own)]) ca109 rfl (args2 rfl rfl) (contains_c hH4.all (l := ow) (h_ow.mono (seg_sub 1 rfl)) p.own) ?_)
  rintro _ w8 ⟨rfl, hX6⟩
  refine ⟨_, rfl, ?_⟩
  have hH7 := hX6.of_all
  refine s_op (o_assign (v := (.bool (decide (p.own ∈ ow)))) rfl ?_)
  refine s_nil ?_
  refine t_norm (hK5 _ _ ?_)
  refine wp_ret ?_
  refine c_ret1 Try.results130  (v := (.bool (decide (p.own ∈ ow)))) rfl ?_
  have q9 : goneS ow p = decide (p.own ∈ ow) := by rfl
  have hH10 : Has E w8 [R] := (hH7.front 1 rfl).first 1 rfl
  exact ⟨by rw [q9], hH10⟩
end Go.Q
namespace Go.Q
open Go.Proofs
set_option linter.unusedVariables false
set_option maxRecDepth 100000
attribute [local irreducible] wpList OK Code.wp
set_option maxHeartbeats 4000000 in
theorem leave_c {E w : World} {R : List Hp} {tb : Nat} {sg_tb : List Hp} {v : TabS} {all : Bool} {v_ow : Value} {ow : List Int}  (hH : Has E w [sg_tb, R]) (h_tb : TbAt tb sg_tb v) (h_ow : Sl R 1 v_ow ow.length (ow.map iV)) (hkl : ∀ p_ ∈ v.keys, p_.1.length ≤ 1000) (hkn : v.keys.length ≤ 1000) (hsz : szT v.keys) :
    Calls Try.prog 94 #[(.pointer (some ⟨tb, 0, none⟩)), (.bool all), v_ow] w fun e w' => ∃ (v1' : Value) (s2' : List Hp) (sg_tb' : List Hp), e = .returned v1' ∧ (Own 3 1 v1' ((leaveS all ow v.keys).2).length (((leaveS all ow v.keys).2).map iV) s2') ∧ (TbAt tb sg_tb' (⟨(leaveS all ow v.keys).1⟩ : TabS)) ∧ Has E w' [s2', sg_tb', R] := by
  obtain ⟨x1, s2, rfl, f3⟩ := h_tb
  have hH4 : Has E w [[Hp.one tb (.cells #[(.map (some x1))] 164 (0, 0))], s2, R] := Has.op2 hH
  have hnd_ := names_nodup f3.nodup
  refine c_enter (args := [(.pointer (some ⟨tb, 0, none⟩)), (.bool all), v_ow]) Try.func94 rfl Try.ntmps94 (by simp) ?_
  refine wp_seq_k fun K5 hK5 => ?_
  refine c_region ?_
  refine s_op (o_box (cs := #[v_ow]) rfl (cells_one h_ow.one) hH4 fun b6 w7 hH8 => ?_)
  refine s_op (o_assign (v := (.slice none 0 0)) rfl ?_)
  refine s_nil ?_
  refine t_norm (hK5 _ _ ?_)
  refine wp_seq_k fun K9 hK9 => ?_
  refine c_region ?_
  refine s_op (o_makeFunc (vs := #[(.pointer (some ⟨b6, 0, none⟩))]) (cap1 rfl) ?_)
  refine s_op (o_assign (v := (.func (.func 130) #[] #[(.pointer (some ⟨b6, 0, none⟩))])) rfl ?_)
  refine s_nil ?_
  refine t_norm (hK9 _ _ ?_)
  refine wp_seq_k fun K10 hK10 => ?_
  refine c_region ?_
  refine s_op (o_assign (v := (.slice none 0 0)) rfl ?_)
  refine s_nil ?_
  refine t_norm (hK10 _ _ ?_)
  refine wp_seq_k fun K11 hK11 => ?_
  refine wp_seq_k fun K12 hK12 => ?_
  refine c_region ?_
  refine s_op (o_move (v := (.pointer (some ⟨tb, 0, none⟩))) rfl ?_)
  refine s_op (o_callf (vs := #[(.pointer (some ⟨tb, 0, none⟩))]) ca95 rfl (args1 rfl) (names_c (v := v) hH8.all (TbRd.mk (v := v) ((CellsAt.one rfl).mono (seg_sub 1 rfl)) (DirRd.mono (Rd := EntRd) EntRd.mono (DirAt.rd (Rd := EntRd) EntRd.mono EntAt.rd f3) (seg_sub 2 rfl))) (by first | omega | (simp only []; omega) | (simp; done) | (simp; omega)) (by first | omega | (simp only []; omega) | (simp; done) | (simp; omega))) ?_)
  rintro _ w18 ⟨v13, s14, rfl, ho15, hX16⟩
  refine ⟨_, rfl, ?_⟩
  have hH17 : Has E w18 [s14, [Hp.one b6 (.cells #[v_ow] 54 (0, 0))], [Hp.one tb (.cells #[(.map (some x1))] 164 (0, 0))], s2, R] := hX16.of_all1
  refine s_op (o_lenS Try.underlying53 rfl ho15.sl ?_)
  refine s_op (o_move (v := (.int .i64 0)) rfl ?_)
  refine s_nil ?_
  refine t_norm (hK12 _ _ ?_)
  refine wp_block ?_
  let I20 : Nat → (Nat → Value) → World → Prop := fun n__ r__ w__ => ∃ (k : Nat) (t2 : Tab) (sd : List Hp) (vo : Value) (so : List Hp) (out : List Int), n__ = (namesS v.keys).length - k ∧ Has E w__ [so, sd, s14, [Hp.one b6 (.cells #[v_ow] 54 (0, 0))], [Hp.one tb (.cells #[(.map (some x1))] 164 (0, 0))], R] ∧ (k ≤ (namesS v.keys).length) ∧ (Own 3 1 vo out.length (out.map iV) so) ∧ (DirAt S EntAt x1 sd t2) ∧ (leaveF all ow v.keys (namesS v.keys) = ((leaveF all ow t2 ((namesS v.keys).drop k)).1, out ++ (leaveF all ow t2 ((namesS v.keys).drop k)).2)) ∧ (∀ j y, k ≤ j → (namesS v.keys)[j]? = some y → (getB t2 y).isSome = true) ∧ (szT t2) ∧ (out.length ≤ k * 1000) ∧ r__ 0 = (.pointer (some ⟨tb, 0, none⟩)) ∧ r__ 1 = (.bool all) ∧ r__ 2 = v_ow ∧ r__ 5 = (.pointer (some ⟨b6, 0, none⟩)) ∧ r__ 6 = (.slice none 0 0) ∧ r__ 7 = (.func (.func 130) #[] #[(.pointer (some ⟨b6, 0, none⟩))]) ∧ r__ 8 = vo ∧ r__ 14 = v13 ∧ r__ 15 = (.int .i64 (((namesS v.keys).length : Nat) : Int)) ∧ r__ 16 = (.int .i64 (k : Int))
  have hH21 : Has E w18 [[], s2, s14, [Hp.one b6 (.cells #[v_ow] 54 (0, 0))], [Hp.one tb (.cells #[(.map (some x1))] 164 (0, 0))], R] := Has.pick (Has.nil hH17) [0, 3, 0, 0, 0, 0] (by kernel_rfl)
  refine c_loop I20 _ ⟨0, v.keys, s2, (.slice none 0 0), [], [], rfl, hH21, Nat.zero_le _, Own.nil 3 1, f3, rfl, fun j y _ hj => getB_mem.2 (names_mem.1 (List.mem_of_getElem? hj)), hsz, (by simp), rfl, rfl, rfl, rfl, rfl, rfl, rfl, rfl, rfl, rfl⟩ ?_
  rintro n_ r24 w22 ⟨k, t2, sd, vo, so, out, rfl, hH23, hk, hoo, hd, hlv, hin, hsz2, hol, e19_0, e19_1, e19_2, e19_5, e19_6, e19_7, e19_8, e19_14, e19_15, e19_16⟩
  have hks_ := names_len v.keys
  refine wp_seq_k fun K25 hK25 => ?_
  refine c_region ?_
  refine s_op (o_lss (a := (k : Int)) (b := (((namesS v.keys).length : Nat) : Int)) e19_16 e19_15 ?_)
  refine s_nil ?_
  refine t_norm (hK25 _ _ ?_)
  refine wp_seq_k fun K26 hK26 => ?_
  refine c_cond rfl (fun h27 => ?_) (fun h27 => ?_)
  · -- (k : Int) < (((namesS v.keys).length : Nat) : Int)
    refine wp_skip ?_
    refine t_norm (hK26 _ _ ?_)
    refine wp_seq_k fun K28 hK28 => ?_
    refine wp_block ?_
    refine wp_seq_k fun K29 hK29 => ?_
    refine c_region ?_
    obtain ⟨x33, hx34⟩ : ∃ x_, (namesS v.keys)[((k : Int)).toNat]? = some x_ := get_some (by omega)
    refine s_op (o_index1 Try.underlying53 ti9 e19_14 ho15.sl e19_16 (by omega) hx34 fun b30 o31 hc32 => ?_)
    refine s_op (o_load1 (v := (S x33)) Try.underlying9 rfl rfl hH23 (seg_sub 2 rfl) hc32 ?_)
    refine s_op (o_assign (v := (S x33)) rfl ?_)
    refine s_nil ?_
    refine t_norm (hK29 _ _ ?_)
    refine wp_seq_k fun K35 hK35 => ?_
    refine c_region ?_
    refine s_op (o_move (v := (.pointer (some ⟨tb, 0, none⟩))) e19_0 ?_)
    refine s_op (o_nilCheck rfl ?_)
    refine s_op (o_fieldAddr (k := 0) (fun _ => by kernel_rfl) rfl ?_)
    refine s_op (o_load1 (v := (.map (some x1))) Try.underlying162 rfl rfl hH23 (seg_sub 4 rfl) (CellsAt.one rfl) ?_)
    refine s_op (o_move (v := (S x33)) rfl ?_)
    refine s_op (o_dirOut (k := x33) Try.underlying162 (key_string Try.underlying9) ti165 rfl rfl hd (hH23.front 1 rfl) (fun hN36 => ?_) (fun b38 v39 sx40 sr41 hS37 hx42 hh43 hH44 => ?_))
    · -- none
      exact absurd (hin k _ (Nat.le_refl _) (show (namesS v.keys)[k]? = some _ from hx34)) (by rw [hN36]; decide)
    · -- some
      have hsz1_ := hsz2.get hS37
      have hfl_ := List.length_filter_le (fun x_ => !goneS ow x_) v39.line
      have hfh_ := List.length_filter_le (fun x_ => !goneS ow x_) v39.hold
      refine s_op (o_assign (v := (.pointer (some ⟨b38, 0, none⟩))) rfl ?_)
      refine s_nil ?_
      refine t_norm (hK35 _ _ ?_)
      refine wp_seq_k fun K45 hK45 => ?_
      refine c_region ?_
      refine s_op (o_move (v := (.pointer (some ⟨b38, 0, none⟩))) rfl ?_)
      refine s_op (o_move (v := (.pointer (some ⟨b38, 0, none⟩))) rfl ?_)
      refine s_op (o_nilCheck rfl ?_)
      obtain ⟨x46, x47, s48, s49, rfl, f50, f51⟩ := hx42
      have hH52 : Has E w22 [[Hp.one b38 (.cells #[x46, x47] 168 (0, 0))], s48, s49, sr41, so, s14, [Hp.one b6 (.cells #[v_ow] 54 (0, 0))], [Hp.one tb (.cells #[(.map (some x1))] 164 (0, 0))], R] := Has.op3 hH44
      refine s_op (o_fieldAddr (k := 1) (fun _ => by kernel_rfl) rfl ?_)
      refine s_op (o_load1 (v := x47) Try.underlying166 rfl rfl hH52 (seg_sub 0 rfl) (CellsAt.one rfl) ?_)
      refine s_op (o_move (v := (.func (.func 130) #[] #[(.pointer (some ⟨b6, 0, none⟩))])) e19_7 ?_)
      refine s_op (o_callf (vs := #[x47, (.func (.func 130) #[] #[(.pointer (some ⟨b6, 0, none⟩))])]) ca131 rfl (args2 rfl rfl) (pdelf_c (l := v39.line) (c := goneS ow) (va := fun v_ => #[v_, (.pointer (some ⟨b6, 0, none⟩))]) (hH52.front 2 rfl).all1 f51 ca130 (fun _ => by simp) (fun F_ x_ h_ => Calls.frameF (gone_c (p := x_) (ow := ow) h_.all ((CellsAt.one rfl).mono (fun _ g_ => sub_l ((seg_sub 5 rfl) g_))) (h_ow.mono (fun _ g_ => sub_l ((seg_sub 7 rfl) g_))))) (by first | omega | (simp only []; omega) | (simp; done) | (simp; omega))) ?_)
      rintro _ w58 ⟨v53, s54, rfl, ho55, hX56⟩
      refine ⟨_, rfl, ?_⟩
      have hH57 : Has E w58 [s54, [Hp.one b38 (.cells #[x46, x47] 168 (0, 0))], s48, sr41, so, s14, [Hp.one b6 (.cells #[v_ow] 54 (0, 0))], [Hp.one tb (.cells #[(.map (some x1))] 164 (0, 0))], R] := hX56.of_all1
      refine s_op (o_nilCheck rfl ?_)
      refine s_op (o_fieldAddr (k := 1) (fun _ => by kernel_rfl) rfl ?_)
      refine s_eff (o_store1 (c' := #[x46, v53]) ti166 rfl rfl ho55.one (by simp) rfl (hH57.front 1 rfl) fun w59 hH60 => ?_)
      refine s_nil ?_
      refine t_norm (hK45 _ _ ?_)
      refine wp_seq_k fun K61 hK61 => ?_
      refine wp_seq_k fun K62 hK62 => ?_
      refine c_region ?_
      refine s_op (o_move (v := (.bool all)) e19_1 ?_)
      refine s_nil ?_
      refine t_norm (hK62 _ _ ?_)
      refine c_condb rfl (fun h63 => ?_) (fun h63 => ?_)
      · -- all
        refine c_region ?_
        refine s_op (o_move (v := (.pointer (some ⟨b38, 0, none⟩))) rfl ?_)
        refine s_op (o_move (v := (.pointer (some ⟨b38, 0, none⟩))) rfl ?_)
        refine s_op (o_nilCheck rfl ?_)
        refine s_op (o_fieldAddr (k := 0) (fun _ => by kernel_rfl) rfl ?_)
        refine s_op (o_load1 (v := x46) Try.underlying166 rfl rfl hH60 (seg_sub 0 rfl) (CellsAt.one rfl) ?_)
        refine s_op (o_move (v := (.func (.func 130) #[] #[(.pointer (some ⟨b6, 0, none⟩))])) e19_7 ?_)
        refine s_op (o_callf (vs := #[x46, (.func (.func 130) #[] #[(.pointer (some ⟨b6, 0, none⟩))])]) ca131 rfl (args2 rfl rfl) (pdelf_c (l := v39.hold) (c := goneS ow) (va := fun v_ => #[v_, (.pointer (some ⟨b6, 0, none⟩))]) (hH60.front 2 rfl).all1 f50 ca130 (fun _ => by simp) (fun F_ x_ h_ => Calls.frameF (gone_c (p := x_) (ow := ow) h_.all ((CellsAt.one rfl).mono (fun _ g_ => sub_l ((seg_sub 5 rfl) g_))) (h_ow.mono (fun _ g_ => sub_l ((seg_sub 7 rfl) g_))))) (by first | omega | (simp only []; omega) | (simp; done) | (simp; omega))) ?_)
        rintro _ w69 ⟨v64, s65, rfl, ho66, hX67⟩
        refine ⟨_, rfl, ?_⟩
        have hH68 : Has E w69 [s65, [Hp.one b38 (.cells #[x46, v53] 168 (0, 0))], s54, sr41, so, s14, [Hp.one b6 (.cells #[v_ow] 54 (0, 0))], [Hp.one tb (.cells #[(.map (some x1))] 164 (0, 0))], R] := hX67.of_all1
        refine s_op (o_nilCheck rfl ?_)
        refine s_op (o_fieldAddr (k := 0) (fun _ => by kernel_rfl) rfl ?_)
        refine s_eff (o_store1 (c' := #[v64, v53]) ti166 rfl rfl ho66.one (by simp) rfl (hH68.front 1 rfl) fun w70 hH71 => ?_)
        refine s_nil ?_
        refine t_norm (hK61 _ _ ?_)
        refine wp_seq_k fun K72 hK72 => ?_
        refine c_region ?_
        refine s_op (o_move (v := vo) e19_8 ?_)
        refine s_op (o_move (v := (.pointer (some ⟨b38, 0, none⟩))) rfl ?_)
        have hH73 : Has E w70 [([Hp.one b38 (.cells #[v64, v53] 168 (0, 0))] ++ (s65 ++ s54)), sr41, so, s14, [Hp.one b6 (.cells #[v_ow] 54 (0, 0))], [Hp.one tb (.cells #[(.map (some x1))] 164 (0, 0))], R] := Has.cl3 (((hH71.front 2 rfl).front 2 rfl).front 2 rfl)
        have hd74 : EntAt b38 ([Hp.one b38 (.cells #[v64, v53] 168 (0, 0))] ++ (s65 ++ s54)) (⟨(v39.hold.filter fun x_ => !(goneS ow) x_), (v39.line.filter fun x_ => !(goneS ow) x_)⟩ : Ent) := EntAt.mk ho66 ho55
        have hgl_ := grant_len (⟨(v39.hold.filter fun x_ => !(goneS ow) x_), (v39.line.filter fun x_ => !(goneS ow) x_)⟩ : Ent).line (⟨(v39.hold.filter fun x_ => !(goneS ow) x_), (v39.line.filter fun x_ => !(goneS ow) x_)⟩ : Ent).hold
        have hgo_ := grant_out (⟨(v39.hold.filter fun x_ => !(goneS ow) x_), (v39.line.filter fun x_ => !(goneS ow) x_)⟩ : Ent).line (⟨(v39.hold.filter fun x_ => !(goneS ow) x_), (v39.line.filter fun x_ => !(goneS ow) x_)⟩ : Ent).hold
        simp only [] at hgl_ hgo_
        refine s_op (o_callf (vs := #[(.pointer (some ⟨b38, 0, none⟩))]) ca132 rfl (args1 rfl) (grant_c (v := (⟨(v39.hold.filter fun x_ => !(goneS ow) x_), (v39.line.filter fun x_ => !(goneS ow) x_)⟩ : Ent)) hH73.all1 hd74 (by first | omega | (simp only []; omega) | (simp; done) | (simp; omega))) ?_)
        rintro _ w82 ⟨v75, s76, sg78, rfl, ho77, hd79, hX80⟩
        refine ⟨_, rfl, ?_⟩
        have hH81 : Has E w82 [s76, sg78, sr41, so, s14, [Hp.one b6 (.cells #[v_ow] 54 (0, 0))], [Hp.one tb (.cells #[(.map (some x1))] 164 (0, 0))], R] := hX80.of_all2
        refine s_op (o_append Try.underlying54 ti3 rfl (by decide) rfl hoo rfl ho77.sl (hH81.front 3 rfl) (seg_sub 0 rfl) (one_iV _) (by simp; omega) (by simp; omega) fun v83 s84 w86 ho85 hH87 => ?_)
        have ho85 : Own 3 1 v83 (out ++ ((grantS (⟨(v39.hold.filter fun x_ => !(goneS ow) x_), (v39.line.filter fun x_ => !(goneS ow) x_)⟩ : Ent).hold (⟨(v39.hold.filter fun x_ => !(goneS ow) x_), (v39.line.filter fun x_ => !(goneS ow) x_)⟩ : Ent).line).1)).length ((out ++ ((grantS (⟨(v39.hold.filter fun x_ => !(goneS ow) x_), (v39.line.filter fun x_ => !(goneS ow) x_)⟩ : Ent).hold (⟨(v39.hold.filter fun x_ => !(goneS ow) x_), (v39.line.filter fun x_ => !(goneS ow) x_)⟩ : Ent).line).1)).map iV) s84 := ho85.app
        refine s_op (o_assign (v := v83) rfl ?_)
        refine s_nil ?_
        refine t_norm (hK72 _ _ ?_)
        refine wp_seq_k fun K88 hK88 => ?_
        refine c_region ?_
        refine s_op (o_move (v := (.pointer (some ⟨b38, 0, none⟩))) rfl ?_)
        refine s_op (o_nilCheck rfl ?_)
        obtain ⟨x89, x90, s91, s92, rfl, f93, f94⟩ := hd79
        have hH95 : Has E w86 [[Hp.one b38 (.cells #[x89, x90] 168 (0, 0))], s91, s92, s84, s76, sr41, s14, [Hp.one b6 (.cells #[v_ow] 54 (0, 0))], [Hp.one tb (.cells #[(.map (some x1))] 164 (0, 0))], R] := Has.op3 (hH87.front 2 rfl)
        refine s_op (o_fieldAddr (k := 0) (fun _ => by kernel_rfl) rfl ?_)
        refine s_op (o_load1 (v := x89) Try.underlying166 rfl rfl hH95 (seg_sub 0 rfl) (CellsAt.one rfl) ?_)
        refine s_op (o_lenS Try.underlying166 rfl f93.sl ?_)
        refine s_op (o_eql (a := ((((grE (⟨(v39.hold.filter fun x_ => !(goneS ow) x_), (v39.line.filter fun x_ => !(goneS ow) x_)⟩ : Ent)).hold).length : Nat) : Int)) (b := 0) rfl rfl ?_)
        refine s_nil ?_
        refine t_norm (hK88 _ _ ?_)
        refine c_cond rfl (fun h96 => ?_) (fun h96 => ?_)
        · -- ((((grE (⟨(v39.hold.filter fun x_ => !(goneS ow) x_), (v39.line.filter fun x_ => !(goneS ow) x_)⟩ : Ent)).hold).length : Nat) : Int) = 0
          refine c_region ?_
          refine s_op (o_move (v := (.pointer (some ⟨tb, 0, none⟩))) e19_0 ?_)
          refine s_op (o_nilCheck rfl ?_)
          refine s_op (o_fieldAddr (k := 0) (fun _ => by kernel_rfl) rfl ?_)
          refine s_op (o_load1 (v := (.map (some x1))) Try.underlying162 rfl rfl hH95 (seg_sub 8 rfl) (CellsAt.one rfl) ?_)
          refine s_op (o_move (v := (S x33)) rfl ?_)
          have hH97 : Has E w86 [([Hp.one b38 (.cells #[x89, x90] 168 (0, 0))] ++ (s91 ++ s92)), s84, s76, sr41, s14, [Hp.one b6 (.cells #[v_ow] 54 (0, 0))], [Hp.one tb (.cells #[(.map (some x1))] 164 (0, 0))], R] := Has.cl3 (((hH95.front 2 rfl).front 2 rfl).front 2 rfl)
          have hd98 : EntAt b38 ([Hp.one b38 (.cells #[x89, x90] 168 (0, 0))] ++ (s91 ++ s92)) (⟨(grE (⟨(v39.hold.filter fun x_ => !(goneS ow) x_), (v39.line.filter fun x_ => !(goneS ow) x_)⟩ : Ent)).hold, (grE (⟨(v39.hold.filter fun x_ => !(goneS ow) x_), (v39.line.filter fun x_ => !(goneS ow) x_)⟩ : Ent)).line⟩ : Ent) := EntAt.mk f93 f94
          obtain ⟨sg99, hd100, hH101⟩ := DirHole.close hh43 hd98 ((hH97.front 3 rfl).front 1 rfl)
          have hd100 : DirAt S EntAt x1 sg99 (putB t2 x33 (⟨(grE (⟨(v39.hold.filter fun x_ => !(goneS ow) x_), (v39.line.filter fun x_ => !(goneS ow) x_)⟩ : Ent)).hold, (grE (⟨(v39.hold.filter fun x_ => !(goneS ow) x_), (v39.line.filter fun x_ => !(goneS ow) x_)⟩ : Ent)).line⟩ : Ent)) := hd100
          refine s_eff (o_dirDel (k := x33) Try.underlying162 (key_string Try.underlying9) rfl rfl hd100 hH101 fun sg102 w103 hd104 hH105 => ?_)
          refine s_nil ?_
          refine b_norm ?_
          refine t_norm (hK28 _ _ ?_)
          refine c_region ?_
          refine s_op (o_add (a := (k : Int)) (b := 1) e19_16 rfl (w64 (by omega) (by omega)) ?_)
          refine s_op (o_move (v := (.int .i64 ((k : Int) + 1))) rfl ?_)
          refine s_nil ?_
          have hH106 : Has E w103 [s84, sg102, s14, [Hp.one b6 (.cells #[v_ow] 54 (0, 0))], [Hp.one tb (.cells #[(.map (some x1))] 164 (0, 0))], R] := Has.pick hH105 [1, 0, 1, 1, 1, 1] (by kernel_rfl)
          refine t_norm ⟨(namesS v.keys).length - (k + 1), _, rfl, ?_, ?_⟩
          · omega
          have hle_ : leftE all ow v39 = grantS (v39.hold.filter fun x_ => !goneS ow x_) (v39.line.filter fun x_ => !goneS ow x_) := by unfold leftE; rw [h63]; rfl
          have hge_ : grE (⟨(v39.hold.filter fun x_ => !(goneS ow) x_), (v39.line.filter fun x_ => !(goneS ow) x_)⟩ : Ent) = (⟨(leftE all ow v39).2.1, (leftE all ow v39).2.2⟩ : Ent) := by unfold grE; rw [hle_]
          have hll_ := leftE_len all ow v39
          have hsz_ := hsz2.get hS37
          have ht_ : (delB (putB t2 x33 (⟨(grE (⟨(v39.hold.filter fun x_ => !(goneS ow) x_), (v39.line.filter fun x_ => !(goneS ow) x_)⟩ : Ent)).hold, (grE (⟨(v39.hold.filter fun x_ => !(goneS ow) x_), (v39.line.filter fun x_ => !(goneS ow) x_)⟩ : Ent)).line⟩ : Ent)) x33) = if ((⟨(leftE all ow v39).2.1, (leftE all ow v39).2.2⟩ : Ent) : Ent).hold = [] then delB (putB t2 x33 (⟨(leftE all ow v39).2.1, (leftE all ow v39).2.2⟩ : Ent)) x33 else putB t2 x33 (⟨(leftE all ow v39).2.1, (leftE all ow v39).2.2⟩ : Ent) := by (have hc_ := h96); rw [hge_] at hc_ ⊢; rw [if_pos (List.eq_nil_of_length_eq_zero (Int.ofNat.inj hc_))]
          · exact ⟨(k + 1), (delB (putB t2 x33 (⟨(grE (⟨(v39.hold.filter fun x_ => !(goneS ow) x_), (v39.line.filter fun x_ => !(goneS ow) x_)⟩ : Ent)).hold, (grE (⟨(v39.hold.filter fun x_ => !(goneS ow) x_), (v39.line.filter fun x_ => !(goneS ow) x_)⟩ : Ent)).line⟩ : Ent)) x33), sg102, v83, s84, (out ++ ((grantS (⟨(v39.hold.filter fun x_ => !(goneS ow) x_), (v39.line.filter fun x_ => !(goneS ow) x_)⟩ : Ent).hold (⟨(v39.hold.filter fun x_ => !(goneS ow) x_), (v39.line.filter fun x_ => !(goneS ow) x_)⟩ : Ent).line).1)), rfl, hH106, (by omega), (ho85), (hd104), (by rw [hlv, drop_of (show (namesS v.keys)[k]? = some _ from hx34), leave_go hS37 rfl rfl ht_]; simp [hle_, List.append_assoc]), (fun j y hj hy => leave_keep (nodup_ne hnd_ hy (show (namesS v.keys)[k]? = some _ from hx34) (by omega)) (hin j y (by omega) hy) hd.nodup ht_), (by rw [ht_]; split; exact (hsz2.put (by simp only []; omega)).del; exact hsz2.put (by simp only []; omega)), (by rw [hle_] at hll_; simp only [List.length_append]; omega), e19_0, e19_1, e19_2, e19_5, e19_6, e19_7, rfl, e19_14, e19_15, rfl⟩
        · -- not: ((((grE (⟨(v39.hold.filter fun x_ => !(goneS ow) x_), (v39.line.filter fun x_ => !(goneS ow) x_)⟩ : Ent)).hold).length : Nat) : Int) = 0
          refine wp_skip ?_
          refine b_norm ?_
          refine t_norm (hK28 _ _ ?_)
          refine c_region ?_
          refine s_op (o_add (a := (k : Int)) (b := 1) e19_16 rfl (w64 (by omega) (by omega)) ?_)
          refine s_op (o_move (v := (.int .i64 ((k : Int) + 1))) rfl ?_)
          refine s_nil ?_
          have hH107 : Has E w86 [([Hp.one b38 (.cells #[x89, x90] 168 (0, 0))] ++ (s91 ++ s92)), s84, s76, sr41, s14, [Hp.one b6 (.cells #[v_ow] 54 (0, 0))], [Hp.one tb (.cells #[(.map (some x1))] 164 (0, 0))], R] := Has.cl3 (((hH95.front 2 rfl).front 2 rfl).front 2 rfl)
          have hd108 : EntAt b38 ([Hp.one b38 (.cells #[x89, x90] 168 (0, 0))] ++ (s91 ++ s92)) (⟨(grE (⟨(v39.hold.filter fun x_ => !(goneS ow) x_), (v39.line.filter fun x_ => !(goneS ow) x_)⟩ : Ent)).hold, (grE (⟨(v39.hold.filter fun x_ => !(goneS ow) x_), (v39.line.filter fun x_ => !(goneS ow) x_)⟩ : Ent)).line⟩ : Ent) := EntAt.mk f93 f94
          obtain ⟨sg109, hd110, hH111⟩ := DirHole.close hh43 hd108 ((hH107.front 3 rfl).front 1 rfl)
          have hd110 : DirAt S EntAt x1 sg109 (putB t2 x33 (⟨(grE (⟨(v39.hold.filter fun x_ => !(goneS ow) x_), (v39.line.filter fun x_ => !(goneS ow) x_)⟩ : Ent)).hold, (grE (⟨(v39.hold.filter fun x_ => !(goneS ow) x_), (v39.line.filter fun x_ => !(goneS ow) x_)⟩ : Ent)).line⟩ : Ent)) := hd110
          have hH112 : Has E w86 [s84, sg109, s14, [Hp.one b6 (.cells #[v_ow] 54 (0, 0))], [Hp.one tb (.cells #[(.map (some x1))] 164 (0, 0))], R] := Has.pick hH111 [1, 0, 1, 1, 1, 1] (by kernel_rfl)
          refine t_norm ⟨(namesS v.keys).length - (k + 1), _, rfl, ?_, ?_⟩
          · omega
          have hle_ : leftE all ow v39 = grantS (v39.hold.filter fun x_ => !goneS ow x_) (v39.line.filter fun x_ => !goneS ow x_) := by unfold leftE; rw [h63]; rfl
          have hge_ : grE (⟨(v39.hold.filter fun x_ => !(goneS ow) x_), (v39.line.filter fun x_ => !(goneS ow) x_)⟩ : Ent) = (⟨(leftE all ow v39).2.1, (leftE all ow v39).2.2⟩ : Ent) := by unfold grE; rw [hle_]
          have hll_ := leftE_len all ow v39
          have hsz_ := hsz2.get hS37
          have ht_ : (putB t2 x33 (⟨(grE (⟨(v39.hold.filter fun x_ => !(goneS ow) x_), (v39.line.filter fun x_ => !(goneS ow) x_)⟩ : Ent)).hold, (grE (⟨(v39.hold.filter fun x_ => !(goneS ow) x_), (v39.line.filter fun x_ => !(goneS ow) x_)⟩ : Ent)).line⟩ : Ent)) = if ((⟨(leftE all ow v39).2.1, (leftE all ow v39).2.2⟩ : Ent) : Ent).hold = [] then delB (putB t2 x33 (⟨(leftE all ow v39).2.1, (leftE all ow v39).2.2⟩ : Ent)) x33 else putB t2 x33 (⟨(leftE all ow v39).2.1, (leftE all ow v39).2.2⟩ : Ent) := by (have hc_ := h96); rw [hge_] at hc_ ⊢; rw [if_neg (fun g_ => hc_ (by rw [g_]; rfl))]
          · exact ⟨(k + 1), (putB t2 x33 (⟨(grE (⟨(v39.hold.filter fun x_ => !(goneS ow) x_), (v39.line.filter fun x_ => !(goneS ow) x_)⟩ : Ent)).hold, (grE (⟨(v39.hold.filter fun x_ => !(goneS ow) x_), (v39.line.filter fun x_ => !(goneS ow) x_)⟩ : Ent)).line⟩ : Ent)), sg109, v83, s84, (out ++ ((grantS (⟨(v39.hold.filter fun x_ => !(goneS ow) x_), (v39.line.filter fun x_ => !(goneS ow) x_)⟩ : Ent).hold (⟨(v39.hold.filter fun x_ => !(goneS ow) x_), (v39.line.filter fun x_ => !(goneS ow) x_)⟩ : Ent).line).1)), rfl, hH112, (by omega), (ho85), (hd110), (by rw [hlv, drop_of (show (namesS v.keys)[k]? = some _ from hx34), leave_go hS37 rfl rfl ht_]; simp [hle_, List.append_assoc]), (fun j y hj hy => leave_keep (nodup_ne hnd_ hy (show (namesS v.keys)[k]? = some _ from hx34) (by omega)) (hin j y (by omega) hy) hd.nodup ht_), (by rw [ht_]; split; exact (hsz2.put (by simp only []; omega)).del; exact hsz2.put (by simp only []; omega)), (by rw [hle_] at hll_; simp only [List.length_append]; omega), e19_0, e19_1, e19_2, e19_5, e19_6, e19_7, rfl, e19_14, e19_15, rfl⟩
      · -- not: all
        refine wp_skip ?_
        refine t_norm (hK61 _ _ ?_)
        refine wp_seq_k fun K113 hK113 => ?_
        refine c_region ?_
        refine s_op (o_move (v := vo) e19_8 ?_)
        refine s_op (o_move (v := (.pointer (some ⟨b38, 0, none⟩))) rfl ?_)
        have hH114 : Has E w59 [([Hp.one b38 (.cells #[x46, v53] 168 (0, 0))] ++ (s48 ++ s54)), sr41, so, s14, [Hp.one b6 (.cells #[v_ow] 54 (0, 0))], [Hp.one tb (.cells #[(.map (some x1))] 164 (0, 0))], R] := Has.cl3 (((hH60.front 1 rfl).front 2 rfl).front 2 rfl)
        have hd115 : EntAt b38 ([Hp.one b38 (.cells #[x46, v53] 168 (0, 0))] ++ (s48 ++ s54)) (⟨v39.hold, (v39.line.filter fun x_ => !(goneS ow) x_)⟩ : Ent) := EntAt.mk f50 ho55
        have hgl_ := grant_len (⟨v39.hold, (v39.line.filter fun x_ => !(goneS ow) x_)⟩ : Ent).line (⟨v39.hold, (v39.line.filter fun x_ => !(goneS ow) x_)⟩ : Ent).hold
        have hgo_ := grant_out (⟨v39.hold, (v39.line.filter fun x_ => !(goneS ow) x_)⟩ : Ent).line (⟨v39.hold, (v39.line.filter fun x_ => !(goneS ow) x_)⟩ : Ent).hold
        simp only [] at hgl_ hgo_
        refine s_op (o_callf (vs := #[(.pointer (some ⟨b38, 0, none⟩))]) ca132 rfl (args1 rfl) (grant_c (v := (⟨v39.hold, (v39.line.filter fun x_ => !(goneS ow) x_)⟩ : Ent)) hH114.all1 hd115 (by first | omega | (simp only []; omega) | (simp; done) | (simp; omega))) ?_)
        rintro _ w123 ⟨v116, s117, sg119, rfl, ho118, hd120, hX121⟩
        refine ⟨_, rfl, ?_⟩
        have hH122 : Has E w123 [s117, sg119, sr41, so, s14, [Hp.one b6 (.cells #[v_ow] 54 (0, 0))], [Hp.one tb (.cells #[(.map (some x1))] 164 (0, 0))], R] := hX121.of_all2
        refine s_op (o_append Try.underlying54 ti3 rfl (by decide) rfl hoo rfl ho118.sl (hH122.front 3 rfl) (seg_sub 0 rfl) (one_iV _) (by simp; omega) (by simp; omega) fun v124 s125 w127 ho126 hH128 => ?_)
        have ho126 : Own 3 1 v124 (out ++ ((grantS (⟨v39.hold, (v39.line.filter fun x_ => !(goneS ow) x_)⟩ : Ent).hold (⟨v39.hold, (v39.line.filter fun x_ => !(goneS ow) x_)⟩ : Ent).line).1)).length ((out ++ ((grantS (⟨v39.hold, (v39.line.filter fun x_ => !(goneS ow) x_)⟩ : Ent).hold (⟨v39.hold, (v39.line.filter fun x_ => !(goneS ow) x_)⟩ : Ent).line).1)).map iV) s125 := ho126.app
        refine s_op (o_assign (v := v124) rfl ?_)
        refine s_nil ?_
        refine t_norm (hK113 _ _ ?_)
        refine wp_seq_k fun K129 hK129 => ?_
        refine c_region ?_
        refine s_op (o_move (v := (.pointer (some ⟨b38, 0, none⟩))) rfl ?_)
        refine s_op (o_nilCheck rfl ?_)
        obtain ⟨x130, x131, s132, s133, rfl, f134, f135⟩ := hd120
        have hH136 : Has E w127 [[Hp.one b38 (.cells #[x130, x131] 168 (0, 0))], s132, s133, s125, s117, sr41, s14, [Hp.one b6 (.cells #[v_ow] 54 (0, 0))], [Hp.one tb (.cells #[(.map (some x1))] 164 (0, 0))], R] := Has.op3 (hH128.front 2 rfl)
        refine s_op (o_fieldAddr (k := 0) (fun _ => by kernel_rfl) rfl ?_)
        refine s_op (o_load1 (v := x130) Try.underlying166 rfl rfl hH136 (seg_sub 0 rfl) (CellsAt.one rfl) ?_)
        refine s_op (o_lenS Try.underlying166 rfl f134.sl ?_)
        refine s_op (o_eql (a := ((((grE (⟨v39.hold, (v39.line.filter fun x_ => !(goneS ow) x_)⟩ : Ent)).hold).length : Nat) : Int)) (b := 0) rfl rfl ?_)
        refine s_nil ?_
        refine t_norm (hK129 _ _ ?_)
        refine c_cond rfl (fun h137 => ?_) (fun h137 => ?_)
        · -- ((((grE (⟨v39.hold, (v39.line.filter fun x_ => !(goneS ow) x_)⟩ : Ent)).hold).length : Nat) : Int) = 0
          refine c_region ?_
          refine s_op (o_move (v := (.pointer (some ⟨tb, 0, none⟩))) e19_0 ?_)
          refine s_op (o_nilCheck rfl ?_)
          refine s_op (o_fieldAddr (k := 0) (fun _ => by kernel_rfl) rfl ?_)
          refine s_op (o_load1 (v := (.map (some x1))) Try.underlying162 rfl rfl hH136 (seg_sub 8 rfl) (CellsAt.one rfl) ?_)
          refine s_op (o_move (v := (S x33)) rfl ?_)
          have hH138 : Has E w127 [([Hp.one b38 (.cells #[x130, x131] 168 (0, 0))] ++ (s132 ++ s133)), s125, s117, sr41, s14, [Hp.one b6 (.cells #[v_ow] 54 (0, 0))], [Hp.one tb (.cells #[(.map (some x1))] 164 (0, 0))], R] := Has.cl3 (((hH136.front 2 rfl).front 2 rfl).front 2 rfl)
          have hd139 : EntAt b38 ([Hp.one b38 (.cells #[x130, x131] 168 (0, 0))] ++ (s132 ++ s133)) (⟨(grE (⟨v39.hold, (v39.line.filter fun x_ => !(goneS ow) x_)⟩ : Ent)).hold, (grE (⟨v39.hold, (v39.line.filter fun x_ => !(goneS ow) x_)⟩ : Ent)).line⟩ : Ent) := EntAt.mk f134 f135
          obtain ⟨sg140, hd141, hH142⟩ := DirHole.close hh43 hd139 ((hH138.front 3 rfl).front 1 rfl)
          have hd141 : DirAt S EntAt x1 sg140 (putB t2 x33 (⟨(grE (⟨v39.hold, (v39.line.filter fun x_ => !(goneS ow) x_)⟩ : Ent)).hold, (grE (⟨v39.hold, (v39.line.filter fun x_ => !(goneS ow) x_)⟩ : Ent)).line⟩ : Ent)) := hd141
          refine s_eff (o_dirDel (k := x33) Try.underlying162 (key_string Try.underlying9) rfl rfl hd141 hH142 fun sg143 w144 hd145 hH146 => ?_)
          refine s_nil ?_
          refine b_norm ?_
          refine t_norm (hK28 _ _ ?_)
          refine c_region ?_
          refine s_op (o_add (a := (k : Int)) (b := 1) e19_16 rfl (w64 (by omega) (by omega)) ?_)
          refine s_op (o_move (v := (.int .i64 ((k : Int) + 1))) rfl ?_)
          refine s_nil ?_
          have hH147 : Has E w144 [s125, sg143, s14, [Hp.one b6 (.cells #[v_ow] 54 (0, 0))], [Hp.one tb (.cells #[(.map (some x1))] 164 (0, 0))], R] := Has.pick hH146 [1, 0, 1, 1, 1, 1] (by kernel_rfl)
          refine t_norm ⟨(namesS v.keys).length - (k + 1), _, rfl, ?_, ?_⟩
          · omega
          have hle_ : leftE all ow v39 = grantS (v39.hold) (v39.line.filter fun x_ => !goneS ow x_) := by unfold leftE; rw [h63]; rfl
          have hge_ : grE (⟨v39.hold, (v39.line.filter fun x_ => !(goneS ow) x_)⟩ : Ent) = (⟨(leftE all ow v39).2.1, (leftE all ow v39).2.2⟩ : Ent) := by unfold grE; rw [hle_]
          have hll_ := leftE_len all ow v39
          have hsz_ := hsz2.get hS37
          have ht_ : (delB (putB t2 x33 (⟨(grE (⟨v39.hold, (v39.line.filter fun x_ => !(goneS ow) x_)⟩ : Ent)).hold, (grE (⟨v39.hold, (v39.line.filter fun x_ => !(goneS ow) x_)⟩ : Ent)).line⟩ : Ent)) x33) = if ((⟨(leftE all ow v39).2.1, (leftE all ow v39).2.2⟩ : Ent) : Ent).hold = [] then delB (putB t2 x33 (⟨(leftE all ow v39).2.1, (leftE all ow v39).2.2⟩ : Ent)) x33 else putB t2 x33 (⟨(leftE all ow v39).2.1, (leftE all ow v39).2.2⟩ : Ent) := by (have hc_ := h137); rw [hge_] at hc_ ⊢; rw [if_pos (List.eq_nil_of_length_eq_zero (Int.ofNat.inj hc_))]
          · exact ⟨(k + 1), (delB (putB t2 x33 (⟨(grE (⟨v39.hold, (v39.line.filter fun x_ => !(goneS ow) x_)⟩ : Ent)).hold, (grE (⟨v39.hold, (v39.line.filter fun x_ => !(goneS ow) x_)⟩ : Ent)).line⟩ : Ent)) x33), sg143, v124, s125, (out ++ ((grantS (⟨v39.hold, (v39.line.filter fun x_ => !(goneS ow) x_)⟩ : Ent).hold (⟨v39.hold, (v39.line.filter fun x_ => !(goneS ow) x_)⟩ : Ent).line).1)), rfl, hH147, (by omega), (ho126), (hd145), (by rw [hlv, drop_of (show (namesS v.keys)[k]? = some _ from hx34), leave_go hS37 rfl rfl ht_]; simp [hle_, List.append_assoc]), (fun j y hj hy => leave_keep (nodup_ne hnd_ hy (show (namesS v.keys)[k]? = some _ from hx34) (by omega)) (hin j y (by omega) hy) hd.nodup ht_), (by rw [ht_]; split; exact (hsz2.put (by simp only []; omega)).del; exact hsz2.put (by simp only []; omega)), (by rw [hle_] at hll_; simp only [List.length_append]; omega), e19_0, e19_1, e19_2, e19_5, e19_6, e19_7, rfl, e19_14, e19_15, rfl⟩
        · -- not: ((((grE (⟨v39.hold, (v39.line.filter fun x_ => !(goneS ow) x_)⟩ : Ent)).hold).length : Nat) : Int) = 0
          refine wp_skip ?_
          refine b_norm ?_
          refine t_norm (hK28 _ _ ?_)
          refine c_region ?_
          refine s_op (o_add (a := (k : Int)) (b := 1) e19_16 rfl (w64 (by omega) (by omega)) ?_)
          refine s_op (o_move (v := (.int .i64 ((k : Int) + 1))) rfl ?_)
          refine s_nil ?_
          have hH148 : Has E w127 [([Hp.one b38 (.cells #[x130, x131] 168 (0, 0))] ++ (s132 ++ s133)), s125, s117, sr41, s14, [Hp.one b6 (.cells #[v_ow] 54 (0, 0))], [Hp.one tb (.cells #[(.map (some x1))] 164 (0, 0))], R] := Has.cl3 (((hH136.front 2 rfl).front 2 rfl).front 2 rfl)
          have hd149 : EntAt b38 ([Hp.one b38 (.cells #[x130, x131] 168 (0, 0))] ++ (s132 ++ s133)) (⟨(grE (⟨v39.hold, (v39.line.filter fun x_ => !(goneS ow) x_)⟩ : Ent)).hold, (grE (⟨v39.hold, (v39.line.filter fun x_ => !(goneS ow) x_)⟩ : Ent)).line⟩ : Ent) := EntAt.mk f134 f135
          obtain ⟨sg150, hd151, hH152⟩ := DirHole.close hh43 hd149 ((hH148.front 3 rfl).front 1 rfl)
          have hd151 : DirAt S EntAt x1 sg150 (putB t2 x33 (⟨(grE (⟨v39.hold, (v39.line.filter fun x_ => !(goneS ow) x_)⟩ : Ent)).hold, (grE (⟨v39.hold, (v39.line.filter fun x_ => !(goneS ow) x_)⟩ : Ent)).line⟩ : Ent)) := hd151
          have hH153 : Has E w127 [s125, sg150, s14, [Hp.one b6 (.cells #[v_ow] 54 (0, 0))], [Hp.one tb (.cells #[(.map (some x1))] 164 (0, 0))], R] := Has.pick hH152 [1, 0, 1, 1, 1, 1] (by kernel_rfl)
          refine t_norm ⟨(namesS v.keys).length - (k + 1), _, rfl, ?_, ?_⟩
          · omega
          have hle_ : leftE all ow v39 = grantS (v39.hold) (v39.line.filter fun x_ => !goneS ow x_) := by unfold leftE; rw [h63]; rfl
          have hge_ : grE (⟨v39.hold, (v39.line.filter fun x_ => !(goneS ow) x_)⟩ : Ent) = (⟨(leftE all ow v39).2.1, (leftE all ow v39).2.2⟩ : Ent) := by unfold grE; rw [hle_]
          have hll_ := leftE_len all ow v39
          have hsz_ := hsz2.get hS37
          have ht_ : (putB t2 x33 (⟨(grE (⟨v39.hold, (v39.line.filter fun x_ => !(goneS ow) x_)⟩ : Ent)).hold, (grE (⟨v39.hold, (v39.line.filter fun x_ => !(goneS ow) x_)⟩ : Ent)).line⟩ : Ent)) = if ((⟨(leftE all ow v39).2.1, (leftE all ow v39).2.2⟩ : Ent) : Ent).hold = [] then delB (putB t2 x33 (⟨(leftE all ow v39).2.1, (leftE all ow v39).2.2⟩ : Ent)) x33 else putB t2 x33 (⟨(leftE all ow v39).2.1, (leftE all ow v39).2.2⟩ : Ent) := by (have hc_ := h137); rw [hge_] at hc_ ⊢; rw [if_neg (fun g_ => hc_ (by rw [g_]; rfl))]
          · exact ⟨(k + 1), (putB t2 x33 (⟨(grE (⟨v39.hold, (v39.line.filter fun x_ => !(goneS ow) x_)⟩ : Ent)).hold, (grE (⟨v39.hold, (v39.line.filter fun x_ => !(goneS ow) x_)⟩ : Ent)).line⟩ : Ent)), sg150, v124, s125, (out ++ ((grantS (⟨v39.hold, (v39.line.filter fun x_ => !(goneS ow) x_)⟩ : Ent).hold (⟨v39.hold, (v39.line.filter fun x_ => !(goneS ow) x_)⟩ : Ent).line).1)), rfl, hH153, (by omega), (ho126), (hd151), (by rw [hlv, drop_of (show (namesS v.keys)[k]? = some _ from hx34), leave_go hS37 rfl rfl ht_]; simp [hle_, List.append_assoc]), (fun j y hj hy => leave_keep (nodup_ne hnd_ hy (show (namesS v.keys)[k]? = some _ from hx34) (by omega)) (hin j y (by omega) hy) hd.nodup ht_), (by rw [ht_]; split; exact (hsz2.put (by simp only []; omega)).del; exact hsz2.put (by simp only []; omega)), (by rw [hle_] at hll_; simp only [List.length_append]; omega), e19_0, e19_1, e19_2, e19_5, e19_6, e19_7, rfl, e19_14, e19_15, rfl⟩
  · -- not: (k : Int) < (((namesS v.keys).length : Nat) : Int)
    refine wp_exit ?_
    refine t_exit (t_exit (x_in (?_)))
    refine t_norm (hK11 _ _ ?_)
    refine wp_seq_k fun K154 hK154 => ?_
    refine c_region ?_
    refine s_op (o_move (v := vo) e19_8 ?_)
    refine s_op (o_assign (v := vo) rfl ?_)
    refine s_nil ?_
    refine t_norm (hK154 _ _ ?_)
    refine wp_ret ?_
    refine c_ret1 Try.results94  (v := vo) rfl ?_
    have hlr : leaveS all ow v.keys = (t2, out) := by
          have he_ : k = (namesS v.keys).length := by omega
          unfold leaveS; rw [hlv, he_, List.drop_length]; simp [leaveF]
    have q155 : (leaveS all ow v.keys).2 = out := by rw [hlr]
    have hH156 : Has E w22 [([Hp.one tb (.cells #[(.map (some x1))] 164 (0, 0))] ++ sd), so, s14, [Hp.one b6 (.cells #[v_ow] 54 (0, 0))], R] := Has.cl2 ((hH23.front 1 rfl).front 4 rfl)
    have hd157 : TbAt tb ([Hp.one tb (.cells #[(.map (some x1))] 164 (0, 0))] ++ sd) (⟨t2⟩ : TabS) := TbAt.mk hd
    have q158 : (⟨(leaveS all ow v.keys).1⟩ : TabS) = (⟨t2⟩ : TabS) := by rw [hlr]
    have hH159 : Has E w22 [so, ([Hp.one tb (.cells #[(.map (some x1))] 164 (0, 0))] ++ sd), R] := (((hH156.front 4 rfl).front 1 rfl).front 2 rfl).first 3 rfl
    exact ⟨_, _, _, rfl, (by rw [q155]; exact hoo), (by rw [q158]; exact hd157), hH159⟩
end Go.Q
namespace Go.Q
open Go.Proofs
set_option linter.unusedVariables false
set_option maxRecDepth 100000
attribute [local irreducible] wpList OK Code.wp
set_option maxHeartbeats 4000000 in
theorem ask_c {E w : World} {R : List Hp} {tb : Nat} {sg_tb : List Hp} {v : TabS} {o : Int} {k : Bs} {wr : Bool}  (hH : Has E w [sg_tb, R]) (h_tb : TbAt tb sg_tb v) (hkl : ∀ p_ ∈ v.keys, p_.1.length ≤ 1000) (hkn : v.keys.length ≤ 1000) (hsz : szT v.keys) :
    Calls Try.prog 39 #[(.pointer (some ⟨tb, 0, none⟩)), (.int .i64 o), (.agg #[(S k), (.bool wr)])] w fun e w' => ∃ (sg_tb' : List Hp), e = .returned (.int .i64 ((askS v.keys o k wr).2)) ∧ (TbAt tb sg_tb' (⟨(askS v.keys o k wr).1⟩ : TabS)) ∧ Has E w' [sg_tb', R] := by
  obtain ⟨x1, s2, rfl, f3⟩ := h_tb
  have hH4 : Has E w [[Hp.one tb (.cells #[(.map (some x1))] 164 (0, 0))], s2, R] := Has.op2 hH
  refine c_enter (args := [(.pointer (some ⟨tb, 0, none⟩)), (.int .i64 o), (.agg #[(S k), (.bool wr)])]) Try.func39 rfl Try.ntmps39 (by simp) ?_
  refine wp_seq_k fun K5 hK5 => ?_
  refine c_region ?_
  refine s_op (o_box (cs := #[(S k), (.bool wr)]) rfl rfl hH4 fun b6 w7 hH8 => ?_)
  refine s_op (o_assign (v := (.int .i64 0)) rfl ?_)
  refine s_nil ?_
  refine t_norm (hK5 _ _ ?_)
  refine wp_seq_k fun K9 hK9 => ?_
  refine wp_seq_k fun K10 hK10 => ?_
  refine c_region ?_
  refine s_op (o_move (v := (.pointer (some ⟨tb, 0, none⟩))) rfl ?_)
  refine s_op (o_pnil (p := some _) Try.underlying68 rfl rfl ?_)
  refine s_op (o_move (v := (.bool false)) rfl ?_)
  refine s_on 14 rfl rfl (o_move (v := (.int .i64 o)) rfl ?_)
  refine s_on 14 rfl rfl (o_lss (a := o) (b := 0) rfl rfl ?_)
  refine s_op (o_pick_f (u := (.bool (decide (o < 0)))) rfl rfl ?_)
  refine s_nil ?_
  refine t_norm (hK10 _ _ ?_)
  refine c_cond rfl (fun h11 => ?_) (fun h11 => ?_)
  · -- o < 0
    refine wp_seq_k fun K12 hK12 => ?_
    refine c_region ?_
    refine s_op (o_assign (v := (.int .i64 1)) rfl ?_)
    refine s_nil ?_
    refine t_norm (hK12 _ _ ?_)
    refine wp_ret ?_
    refine t_ret (c_ret1 Try.results39  (v := (.int .i64 1)) rfl ?_)
    have hak_ : askS v.keys o k wr = (v.keys, 1) := by rw [askS, if_pos h11]
    have q13 : (askS v.keys o k wr).2 = 1 := by rw [hak_]
    have hH14 : Has E w7 [([Hp.one tb (.cells #[(.map (some x1))] 164 (0, 0))] ++ s2), [Hp.one b6 (.cells #[(S k), (.bool wr)] 74 (0, 0))], R] := Has.cl2 ((hH8.front 2 rfl).front 2 rfl)
    have hd15 : TbAt tb ([Hp.one tb (.cells #[(.map (some x1))] 164 (0, 0))] ++ s2) v := TbAt.mk f3
    have q16 : (⟨(askS v.keys o k wr).1⟩ : TabS) = v := by rw [hak_]
    have hH17 : Has E w7 [([Hp.one tb (.cells #[(.map (some x1))] 164 (0, 0))] ++ s2), R] := ((hH14.front 2 rfl).front 1 rfl).first 2 rfl
    exact ⟨_, by rw [q13], (by rw [q16]; exact hd15), hH17⟩
  · -- not: o < 0
    refine wp_skip ?_
    refine t_norm (hK9 _ _ ?_)
    refine wp_seq_k fun K18 hK18 => ?_
    refine wp_seq_k fun K19 hK19 => ?_
    refine c_region ?_
    refine s_op (o_move (v := (.pointer (some ⟨tb, 0, none⟩))) rfl ?_)
    refine s_op (o_move (v := (.int .i64 o)) rfl ?_)
    refine s_op (o_callf (vs := #[(.pointer (some ⟨tb, 0, none⟩)), (.int .i64 o)]) ca44 rfl (args2 rfl rfl) (waits_c (v := v) (o := o) hH8.all (TbRd.mk (v := v) ((CellsAt.one rfl).mono (seg_sub 1 rfl)) (DirRd.mono (Rd := EntRd) EntRd.mono (DirAt.rd (Rd := EntRd) EntRd.mono EntAt.rd f3) (seg_sub 2 rfl))) (by first | omega | (simp only []; omega) | (simp; done) | (simp; omega)) (by first | omega | (simp only []; omega) | (simp; done) | (simp; omega))) ?_)
    rintro _ w22 ⟨rfl, hX20⟩
    refine ⟨_, rfl, ?_⟩
    have hH21 := hX20.of_all
    refine s_op (o_move (v := (.tuple #[(.agg #[(S (((waitsS v.keys o).map (·.key)).getD [])), (.bool (((waitsS v.keys o).map (·.wr)).getD false))]), (.bool ((waitsS v.keys o).isSome))])) rfl ?_)
    refine s_op (o_extract (v := (.agg #[(S (((waitsS v.keys o).map (·.key)).getD [])), (.bool (((waitsS v.keys o).map (·.wr)).getD false))])) rfl rfl ?_)
    refine s_op (o_extract (v := (.bool ((waitsS v.keys o).isSome))) rfl rfl ?_)
    refine s_op (o_alloc (cs := #[(S ([] : List UInt8)), (.bool false)]) ti74 rfl hH21 fun b23 w24 hH25 => ?_)
    refine s_eff (o_storeN (vs := [(S (((waitsS v.keys o).map (·.key)).getD [])), (.bool (((waitsS v.keys o).map (·.wr)).getD false))]) (c' := #[(S (((waitsS v.keys o).map (·.key)).getD [])), (.bool (((waitsS v.keys o).map (·.wr)).getD false))]) ti74 rfl rfl rfl rfl (by intro u hu; simp only [List.mem_cons, List.not_mem_nil, or_false] at hu; rcases hu with rfl | rfl <;> first | rfl) (by simp) (by kernel_rfl) (hH25.front 0 rfl) fun w26 hH27 => ?_)
    refine s_op (o_assign (v := (.bool ((waitsS v.keys o).isSome))) rfl ?_)
    refine s_nil ?_
    refine t_norm (hK19 _ _ ?_)
    refine wp_seq_k fun K28 hK28 => ?_
    refine c_region ?_
    refine s_op (o_move (v := (.bool ((waitsS v.keys o).isSome))) rfl ?_)
    refine s_nil ?_
    refine t_norm (hK28 _ _ ?_)
    refine c_condb rfl (fun h29 => ?_) (fun h29 => ?_)
    · -- (waitsS v.keys o).isSome
      refine wp_seq_k fun K30 hK30 => ?_
      refine c_region ?_
      refine s_op (o_assign (v := (.int .i64 12)) rfl ?_)
      refine s_nil ?_
      refine t_norm (hK30 _ _ ?_)
      refine wp_ret ?_
      refine t_ret (c_ret1 Try.results39  (v := (.int .i64 12)) rfl ?_)
      have hak_ : askS v.keys o k wr = (v.keys, 12) := by rw [askS, if_neg h11, if_pos h29]
      have q31 : (askS v.keys o k wr).2 = 12 := by rw [hak_]
      have hH32 : Has E w26 [([Hp.one tb (.cells #[(.map (some x1))] 164 (0, 0))] ++ s2), [Hp.one b23 (.cells #[(S (((waitsS v.keys o).map (·.key)).getD [])), (.bool (((waitsS v.keys o).map (·.wr)).getD false))] 74 (0, 0))], [Hp.one b6 (.cells #[(S k), (.bool wr)] 74 (0, 0))], R] := Has.cl2 ((hH27.front 3 rfl).front 3 rfl)
      have hd33 : TbAt tb ([Hp.one tb (.cells #[(.map (some x1))] 164 (0, 0))] ++ s2) v := TbAt.mk f3
      have q34 : (⟨(askS v.keys o k wr).1⟩ : TabS) = v := by rw [hak_]
      have hH35 : Has E w26 [([Hp.one tb (.cells #[(.map (some x1))] 164 (0, 0))] ++ s2), R] := ((hH32.front 3 rfl).front 1 rfl).first 2 rfl
      exact ⟨_, by rw [q31], (by rw [q34]; exact hd33), hH35⟩
    · -- not: (waitsS v.keys o).isSome
      refine wp_skip ?_
      refine t_norm (hK18 _ _ ?_)
      refine wp_seq_k fun K36 hK36 => ?_
      refine Rest.region mixed (by kernel_rfl) ?_
      have hH37 : Has E { w26 with drawn := w26.drawn + 1 } [[Hp.one b23 (.cells #[(S (((waitsS v.keys o).map (·.key)).getD [])), (.bool (((waitsS v.keys o).map (·.wr)).getD false))] 74 (0, 0))], [Hp.one b6 (.cells #[(S k), (.bool wr)] 74 (0, 0))], [Hp.one tb (.cells #[(.map (some x1))] 164 (0, 0))], s2, R] := Has0.drew hH27 _
      refine Rest.phaseA (fun w_ => Has E w_ [[Hp.one b6 (.cells #[(S k), (.bool wr)] 74 (0, 0))], [Hp.one tb (.cells #[(.map (some x1))] 164 (0, 0))]]) 0 6 6 rfl (by decide) (by kernel_rfl) ?_
      refine a_op 0 rfl (by kernel_rfl) (fun w_ h_ => o_move (v := (.pointer (some ⟨tb, 0, none⟩))) rfl ⟨rfl, rfl⟩) ?_
      refine a_op 1 rfl (by kernel_rfl) (fun w_ h_ => o_nilCheck rfl ⟨rfl, rfl⟩) ?_
      refine a_op 2 rfl (by kernel_rfl) (fun w_ h_ => o_fieldAddr (k := 0) (fun _ => by kernel_rfl) rfl ⟨rfl, rfl⟩) ?_
      refine a_op 3 rfl (by kernel_rfl) (fun w_ h_ => o_load1 (v := (.map (some x1))) Try.underlying162 rfl rfl h_ (seg_sub 1 rfl) (CellsAt.one rfl) ⟨rfl, rfl⟩) ?_
      refine a_op 4 rfl (by kernel_rfl) (fun w_ h_ => o_fieldAddr (k := 0) (fun _ => by kernel_rfl) rfl ⟨rfl, rfl⟩) ?_
      refine a_op 5 rfl (by kernel_rfl) (fun w_ h_ => o_load1 (v := (S k)) Try.underlying9 rfl rfl h_ (seg_sub 0 rfl) (CellsAt.one rfl) ⟨rfl, rfl⟩) ?_
      have hH38 : Has E { w26 with drawn := w26.drawn + 1 } [[Hp.one b6 (.cells #[(S k), (.bool wr)] 74 (0, 0))], [Hp.one tb (.cells #[(.map (some x1))] 164 (0, 0))]] := ((hH37.front 2 rfl).front 2 rfl).first 2 rfl
      refine a_done (by kernel_rfl) hH38 ?_
      refine r_op 6 rfl (by kernel_rfl) (o_dirOut (k := k) Try.underlying162 (key_string Try.underlying9) ti165 rfl rfl f3 (hH37.front 3 rfl) (fun hN39 => ?_) (fun b41 v42 sx43 sr44 hS40 hx45 hh46 hH47 => ?_))
      · -- none
        refine r_op 7 rfl (by kernel_rfl) (o_assign (v := (.pointer none)) rfl ?_)
        refine Rest.done (by kernel_rfl) ?_
        refine t_norm (hK36 _ _ ?_)
        refine wp_seq_k fun K48 hK48 => ?_
        refine wp_seq_k fun K49 hK49 => ?_
        refine c_region ?_
        refine s_op (o_move (v := (.pointer none)) rfl ?_)
        refine s_op (o_pnil (p := none) Try.underlying165 rfl rfl ?_)
        refine s_nil ?_
        refine t_norm (hK49 _ _ ?_)
        refine c_true rfl rfl ?_
        refine wp_seq_k fun K50 hK50 => ?_
        refine c_region ?_
        refine s_op (o_sight (v := (.agg #[(.slice none 0 0), (.slice none 0 0)])) (fun _ => by kernel_rfl) ?_)
        refine s_op (o_box (cs := #[(.slice none 0 0), (.slice none 0 0)]) rfl rfl hH37 fun b51 w52 hH53 => ?_)
        refine s_op (o_assign (v := (.pointer (some ⟨b51, 0, none⟩))) rfl ?_)
        refine s_nil ?_
        refine t_norm (hK50 _ _ ?_)
        refine Rest.region mixed (by kernel_rfl) ?_
        have hH54 : Has E { w52 with drawn := w52.drawn + 1 } [[Hp.one b51 (.cells #[(.slice none 0 0), (.slice none 0 0)] 168 (0, 0))], [Hp.one b23 (.cells #[(S (((waitsS v.keys o).map (·.key)).getD [])), (.bool (((waitsS v.keys o).map (·.wr)).getD false))] 74 (0, 0))], [Hp.one b6 (.cells #[(S k), (.bool wr)] 74 (0, 0))], [Hp.one tb (.cells #[(.map (some x1))] 164 (0, 0))], s2, R] := Has0.drew hH53 _
        refine Rest.phaseA (fun w_ => Has E w_ [[Hp.one b6 (.cells #[(S k), (.bool wr)] 74 (0, 0))], [Hp.one tb (.cells #[(.map (some x1))] 164 (0, 0))]]) 0 7 7 rfl (by decide) (by kernel_rfl) ?_
        refine a_op 0 rfl (by kernel_rfl) (fun w_ h_ => o_move (v := (.pointer (some ⟨tb, 0, none⟩))) rfl ⟨rfl, rfl⟩) ?_
        refine a_op 1 rfl (by kernel_rfl) (fun w_ h_ => o_nilCheck rfl ⟨rfl, rfl⟩) ?_
        refine a_op 2 rfl (by kernel_rfl) (fun w_ h_ => o_fieldAddr (k := 0) (fun _ => by kernel_rfl) rfl ⟨rfl, rfl⟩) ?_
        refine a_op 3 rfl (by kernel_rfl) (fun w_ h_ => o_load1 (v := (.map (some x1))) Try.underlying162 rfl rfl h_ (seg_sub 1 rfl) (CellsAt.one rfl) ⟨rfl, rfl⟩) ?_
        refine a_op 4 rfl (by kernel_rfl) (fun w_ h_ => o_fieldAddr (k := 0) (fun _ => by kernel_rfl) rfl ⟨rfl, rfl⟩) ?_
        refine a_op 5 rfl (by kernel_rfl) (fun w_ h_ => o_load1 (v := (S k)) Try.underlying9 rfl rfl h_ (seg_sub 0 rfl) (CellsAt.one rfl) ⟨rfl, rfl⟩) ?_
        refine a_op 6 rfl (by kernel_rfl) (fun w_ h_ => o_move (v := (.pointer (some ⟨b51, 0, none⟩))) rfl ⟨rfl, rfl⟩) ?_
        have hH55 : Has E { w52 with drawn := w52.drawn + 1 } [[Hp.one b6 (.cells #[(S k), (.bool wr)] 74 (0, 0))], [Hp.one tb (.cells #[(.map (some x1))] 164 (0, 0))]] := ((hH54.front 3 rfl).front 3 rfl).first 2 rfl
        refine a_done (by kernel_rfl) hH55 ?_
        have hH56 := Has.nil hH54
        have hH57 := Has.nil hH56
        have hH58 : Has E { w52 with drawn := w52.drawn + 1 } [([Hp.one b51 (.cells #[(.slice none 0 0), (.slice none 0 0)] 168 (0, 0))] ++ ([] ++ [])), [Hp.one b23 (.cells #[(S (((waitsS v.keys o).map (·.key)).getD [])), (.bool (((waitsS v.keys o).map (·.wr)).getD false))] 74 (0, 0))], [Hp.one b6 (.cells #[(S k), (.bool wr)] 74 (0, 0))], [Hp.one tb (.cells #[(.map (some x1))] 164 (0, 0))], s2, R] := Has.cl3 (hH57.front 2 rfl)
        have hd59 : EntAt b51 ([Hp.one b51 (.cells #[(.slice none 0 0), (.slice none 0 0)] 168 (0, 0))] ++ ([] ++ [])) (⟨([] : List Plc), ([] : List Plc)⟩ : Ent) := EntAt.mk (Own.nil 170 3) (Own.nil 170 3)
        refine r_eff 7 rfl (by kernel_rfl) (o_dirPut (k := k) Try.underlying162 (key_string Try.underlying9) rfl rfl rfl f3 hN39 hd59 (hH58.front 4 rfl) fun sr60 w61 hh62 hH63 => ?_)
        refine Rest.done (by kernel_rfl) ?_
        refine t_norm (hK48 _ _ ?_)
        refine wp_seq_k fun K64 hK64 => ?_
        refine c_region ?_
        refine s_op (o_loadN (cs := [(S k), (.bool wr)]) Try.underlying74 rfl ti74 rfl hH63 (seg_sub 3 rfl) (CellsAt.one rfl) ?_)
        refine s_op (o_move (v := (.int .i64 o)) rfl ?_)
        refine s_op (o_sight (v := (.agg #[(S k), (.bool wr), (.int .i64 o)])) (fun _ => by kernel_rfl) ?_)
        refine s_op (o_alloc (cs := #[(S ([] : List UInt8)), (.bool false), (.int .i64 0)]) ti170 rfl hH63 fun b65 w66 hH67 => ?_)
        refine s_eff (o_storeN (vs := [(S k), (.bool wr), (.int .i64 o)]) (c' := #[(S k), (.bool wr), (.int .i64 o)]) ti170 rfl rfl rfl rfl (by intro u hu; simp only [List.mem_cons, List.not_mem_nil, or_false] at hu; rcases hu with rfl | rfl | rfl <;> first | rfl) (by simp) (by kernel_rfl) (hH67.front 0 rfl) fun w68 hH69 => ?_)
        refine s_nil ?_
        refine t_norm (hK64 _ _ ?_)
        refine wp_seq_k fun K70 hK70 => ?_
        refine c_region ?_
        refine s_op (o_move (v := (.pointer (some ⟨b51, 0, none⟩))) rfl ?_)
        refine s_op (o_nilCheck rfl ?_)
        obtain ⟨x71, x72, s73, s74, heq_, f75, f76⟩ := hd59
        have f75 : Own 170 3 x71 ([] : List Plc).length ((([] : List Plc)).flatMap plC) s73 := f75
        have f76 : Own 170 3 x72 ([] : List Plc).length ((([] : List Plc)).flatMap plC) s74 := f76
        have hH77 : Has E w68 [([Hp.one b51 (.cells #[x71, x72] 168 (0, 0))] ++ (s73 ++ s74)), [Hp.one b65 (.cells #[(S k), (.bool wr), (.int .i64 o)] 170 (0, 0))], sr60, [Hp.one b23 (.cells #[(S (((waitsS v.keys o).map (·.key)).getD [])), (.bool (((waitsS v.keys o).map (·.wr)).getD false))] 74 (0, 0))], [Hp.one b6 (.cells #[(S k), (.bool wr)] 74 (0, 0))], [Hp.one tb (.cells #[(.map (some x1))] 164 (0, 0))], R] := by (have h9_ : Has E w68 [([Hp.one b51 (.cells #[(.slice none 0 0), (.slice none 0 0)] 168 (0, 0))] ++ ([] ++ [])), [Hp.one b65 (.cells #[(S k), (.bool wr), (.int .i64 o)] 170 (0, 0))], sr60, [Hp.one b23 (.cells #[(S (((waitsS v.keys o).map (·.key)).getD [])), (.bool (((waitsS v.keys o).map (·.wr)).getD false))] 74 (0, 0))], [Hp.one b6 (.cells #[(S k), (.bool wr)] 74 (0, 0))], [Hp.one tb (.cells #[(.map (some x1))] 164 (0, 0))], R] := (hH69.front 1 rfl)); rw [heq_] at h9_; exact h9_
        have hH78 : Has E w68 [[Hp.one b51 (.cells #[x71, x72] 168 (0, 0))], s73, s74, [Hp.one b65 (.cells #[(S k), (.bool wr), (.int .i64 o)] 170 (0, 0))], sr60, [Hp.one b23 (.cells #[(S (((waitsS v.keys o).map (·.key)).getD [])), (.bool (((waitsS v.keys o).map (·.wr)).getD false))] 74 (0, 0))], [Hp.one b6 (.cells #[(S k), (.bool wr)] 74 (0, 0))], [Hp.one tb (.cells #[(.map (some x1))] 164 (0, 0))], R] := Has.op3 hH77
        refine s_op (o_fieldAddr (k := 0) (fun _ => by kernel_rfl) rfl ?_)
        refine s_op (o_load1 (v := x71) Try.underlying166 rfl rfl hH78 (seg_sub 0 rfl) (CellsAt.one rfl) ?_)
        refine s_op (o_move (v := (.int .i64 o)) rfl ?_)
        refine s_op (o_callf (vs := #[x71, (.int .i64 o)]) ca90 rfl (args2 rfl rfl) (at_c (l := ([] : List Plc)) (o := o) hH78.all (f75.sl.mono (seg_sub 1 rfl))) ?_)
        rintro _ w81 ⟨rfl, hX79⟩
        refine ⟨_, rfl, ?_⟩
        have hH80 := hX79.of_all
        have := atS_lt ([] : List Plc) o
        refine s_op (o_assign (v := (.int .i64 (atS ([] : List Plc) o))) rfl ?_)
        refine s_nil ?_
        refine t_norm (hK70 _ _ ?_)
        refine wp_seq_k fun K82 hK82 => ?_
        refine wp_block ?_
        refine wp_seq_k fun K83 hK83 => ?_
        refine c_region ?_
        refine s_op (o_move (v := (.int .i64 (atS ([] : List Plc) o))) rfl ?_)
        refine s_op (o_geq (a := atS ([] : List Plc) o) (b := 0) rfl rfl ?_)
        refine s_op (o_move (v := (.bool (decide (0 ≤ atS ([] : List Plc) o)))) rfl ?_)
        by_cases h84 : 0 ≤ atS ([] : List Plc) o
        · -- 0 ≤ atS ([] : List Plc) o
          exact absurd h84 (by rw [at_nil]; decide)
        · -- not: 0 ≤ atS ([] : List Plc) o
          refine s_off (b' := false) 55 rfl (congrArg Value.bool (decide_eq_false h84)) rfl ?_
          refine s_off (b' := false) 55 rfl (congrArg Value.bool (decide_eq_false h84)) rfl ?_
          refine s_off (b' := false) 55 rfl (congrArg Value.bool (decide_eq_false h84)) rfl ?_
          refine s_off (b' := false) 55 rfl (congrArg Value.bool (decide_eq_false h84)) rfl ?_
          refine s_off (b' := false) 55 rfl (congrArg Value.bool (decide_eq_false h84)) rfl ?_
          refine s_off (b' := false) 55 rfl (congrArg Value.bool (decide_eq_false h84)) rfl ?_
          refine s_off (b' := false) 55 rfl (congrArg Value.bool (decide_eq_false h84)) rfl ?_
          refine s_off (b' := false) 55 rfl (congrArg Value.bool (decide_eq_false h84)) rfl ?_
          refine s_off (b' := false) 55 rfl (congrArg Value.bool (decide_eq_false h84)) rfl ?_
          refine s_off (b' := false) 55 rfl (congrArg Value.bool (decide_eq_false h84)) rfl ?_
          refine s_offu 65 rfl rfl ?_
          refine s_offu 65 rfl rfl ?_
          refine s_offu 65 rfl rfl ?_
          refine s_off (b' := false) 55 rfl (congrArg Value.bool (decide_eq_false h84)) rfl ?_
          refine s_op (o_pick_f (u := (.bool false)) ((rfl : _ = _).trans (congrArg Value.bool (decide_eq_false h84))) rfl ?_)
          refine s_op (o_assign (v := (.bool false)) rfl ?_)
          refine s_nil ?_
          refine t_norm (hK83 _ _ ?_)
          refine c_false rfl rfl ?_
          refine wp_seq_k fun K85 hK85 => ?_
          refine c_region ?_
          refine s_op (o_move (v := (.pointer (some ⟨b51, 0, none⟩))) rfl ?_)
          refine s_op (o_loadN (cs := [(S k), (.bool wr), (.int .i64 o)]) Try.underlying170 rfl ti170 rfl hH80 (seg_sub 3 rfl) (CellsAt.one rfl) ?_)
          refine s_op (o_callf (vs := #[(.pointer (some ⟨b51, 0, none⟩)), (.agg #[(S k), (.bool wr), (.int .i64 o)])]) ca91 rfl (args2 rfl rfl) (free_c (v := (⟨([] : List Plc), ([] : List Plc)⟩ : Ent)) (p := (Plc.mk k wr o)) hH80.all (EntRd.mk (v := (⟨([] : List Plc), ([] : List Plc)⟩ : Ent)) ((CellsAt.one rfl).mono (seg_sub 0 rfl)) (f75.sl.mono (seg_sub 1 rfl)) (f76.sl.mono (seg_sub 2 rfl)))) ?_)
          rintro _ w88 ⟨rfl, hX86⟩
          refine ⟨_, rfl, ?_⟩
          have hH87 := hX86.of_all
          refine s_op (o_move (v := (.bool (freeS (⟨([] : List Plc), ([] : List Plc)⟩ : Ent).hold (Plc.mk k wr o)))) rfl ?_)
          rcases Bool.eq_false_or_eq_true (freeS (⟨([] : List Plc), ([] : List Plc)⟩ : Ent).hold (Plc.mk k wr o)) with h89 | h89
          · -- freeS (⟨([] : List Plc), ([] : List Plc)⟩ : Ent).hold (Plc.mk k wr o)
            refine s_on 75 rfl (congrArg Value.bool h89) (o_move (v := (.int .i64 (atS ([] : List Plc) o))) rfl ?_)
            refine s_on 75 rfl (congrArg Value.bool h89) (o_geq (a := atS ([] : List Plc) o) (b := 0) rfl rfl ?_)
            refine s_on 75 rfl (congrArg Value.bool h89) (o_move (v := (.bool (decide (0 ≤ atS ([] : List Plc) o)))) rfl ?_)
            refine s_on 78 rfl (congrArg Value.bool (decide_eq_false h84)) (o_move (v := (.pointer (some ⟨b51, 0, none⟩))) rfl ?_)
            refine s_on 78 rfl (congrArg Value.bool (decide_eq_false h84)) (o_nilCheck rfl ?_)
            refine s_on 78 rfl (congrArg Value.bool (decide_eq_false h84)) (o_fieldAddr (k := 1) (fun _ => by kernel_rfl) rfl ?_)
            refine s_on 78 rfl (congrArg Value.bool (decide_eq_false h84)) (o_load1 (v := x72) Try.underlying166 rfl rfl hH87 (seg_sub 0 rfl) (CellsAt.one rfl) ?_)
            refine s_on 78 rfl (congrArg Value.bool (decide_eq_false h84)) (o_lenS Try.underlying166 rfl f76.sl ?_)
            refine s_on 78 rfl (congrArg Value.bool (decide_eq_false h84)) (o_eql (a := ((([] : List Plc).length : Nat) : Int)) (b := 0) rfl rfl ?_)
            refine s_on 75 rfl (congrArg Value.bool h89) (o_pick_f (u := (.bool (decide (((([] : List Plc).length : Nat) : Int) = 0)))) ((rfl : _ = _).trans (congrArg Value.bool (decide_eq_false h84))) rfl ?_)
            refine s_op (o_pick_t (u := (.bool (decide (((([] : List Plc).length : Nat) : Int) = 0)))) ((rfl : _ = _).trans (congrArg Value.bool h89)) rfl ?_)
            refine s_op (o_assign (v := (.bool (decide (((([] : List Plc).length : Nat) : Int) = 0)))) rfl ?_)
            refine s_nil ?_
            refine t_norm (hK85 _ _ ?_)
            refine c_cond rfl (fun h90 => ?_) (fun h90 => ?_)
            · -- ((([] : List Plc).length : Nat) : Int) = 0
              refine wp_seq_k fun K91 hK91 => ?_
              refine c_region ?_
              refine s_op (o_move (v := (.pointer (some ⟨b51, 0, none⟩))) rfl ?_)
              refine s_op (o_loadN (cs := [(S k), (.bool wr), (.int .i64 o)]) Try.underlying170 rfl ti170 rfl hH87 (seg_sub 3 rfl) (CellsAt.one rfl) ?_)
              have hH92 : Has E w88 [([Hp.one b51 (.cells #[x71, x72] 168 (0, 0))] ++ (s73 ++ s74)), [Hp.one b65 (.cells #[(S k), (.bool wr), (.int .i64 o)] 170 (0, 0))], sr60, [Hp.one b23 (.cells #[(S (((waitsS v.keys o).map (·.key)).getD [])), (.bool (((waitsS v.keys o).map (·.wr)).getD false))] 74 (0, 0))], [Hp.one b6 (.cells #[(S k), (.bool wr)] 74 (0, 0))], [Hp.one tb (.cells #[(.map (some x1))] 164 (0, 0))], R] := Has.cl3 (((hH87.front 2 rfl).front 2 rfl).front 2 rfl)
              have hd93 : EntAt b51 ([Hp.one b51 (.cells #[x71, x72] 168 (0, 0))] ++ (s73 ++ s74)) (⟨([] : List Plc), ([] : List Plc)⟩ : Ent) := EntAt.mk f75 f76
              refine s_op (o_callf (vs := #[(.pointer (some ⟨b51, 0, none⟩)), (.agg #[(S k), (.bool wr), (.int .i64 o)])]) ca92 rfl (args2 rfl rfl) (hold_c (v := (⟨([] : List Plc), ([] : List Plc)⟩ : Ent)) (p := (Plc.mk k wr o)) hH92.all1 hd93 (by first | omega | (simp only []; omega) | (simp; done) | (simp; omega))) ?_)
              rintro _ w98 ⟨sg94, rfl, hd95, hX96⟩
              refine ⟨_, rfl, ?_⟩
              have hH97 : Has E w98 [sg94, [Hp.one b65 (.cells #[(S k), (.bool wr), (.int .i64 o)] 170 (0, 0))], sr60, [Hp.one b23 (.cells #[(S (((waitsS v.keys o).map (·.key)).getD [])), (.bool (((waitsS v.keys o).map (·.wr)).getD false))] 74 (0, 0))], [Hp.one b6 (.cells #[(S k), (.bool wr)] 74 (0, 0))], [Hp.one tb (.cells #[(.map (some x1))] 164 (0, 0))], R] := hX96.of_all1
              refine s_nil ?_
              refine t_norm (hK91 _ _ ?_)
              refine wp_seq_k fun K99 hK99 => ?_
              refine c_region ?_
              refine s_op (o_assign (v := (.int .i64 0)) rfl ?_)
              refine s_nil ?_
              refine t_norm (hK99 _ _ ?_)
              refine wp_ret ?_
              refine b_ret (t_ret (c_ret1 Try.results39  (v := (.int .i64 0)) rfl ?_))
              obtain ⟨sg100, hd101, hH102⟩ := DirHole.close hh62 hd95 ((hH97.front 2 rfl).front 1 rfl)
              have hd101 : DirAt S EntAt x1 sg100 (putB (putB v.keys k (⟨([] : List Plc), ([] : List Plc)⟩ : Ent)) k (⟨holdS (⟨([] : List Plc), ([] : List Plc)⟩ : Ent).hold (Plc.mk k wr o), (⟨([] : List Plc), ([] : List Plc)⟩ : Ent).line⟩ : Ent)) := hd101
              have hh0_ : ¬ (0 : Int) ≤ atS ([] : List Plc) o := by rw [at_nil]; decide
              have hn1_ : ¬ (0 ≤ atS (⟨[], []⟩ : Ent).hold o ∧ ((((⟨[], []⟩ : Ent).hold[(atS (⟨[], []⟩ : Ent).hold o).toNat]?).map (·.wr)).getD false = true ∨ wr = false)) := fun g_ => h84 g_.1
              have hae_ : askE (⟨[], []⟩ : Ent) ⟨k, wr, o⟩ = ((⟨holdS (⟨[], []⟩ : Ent).hold ⟨k, wr, o⟩, (⟨[], []⟩ : Ent).line⟩ : Ent), 0) := by rw [askE, if_neg hn1_, if_pos ⟨h89, .inr (List.eq_nil_of_length_eq_zero (by rfl))⟩]
              have hak_ := ask_state h11 (by simpa using h29) (Eq.trans (by rw [ent_none hN39]) hae_)
              rw [← putB_putB k (⟨[], []⟩ : Ent)] at hak_
              have q103 : (askS v.keys o k wr).2 = 0 := by rw [hak_]
              have hH104 : Has E w98 [([Hp.one tb (.cells #[(.map (some x1))] 164 (0, 0))] ++ sg100), [Hp.one b65 (.cells #[(S k), (.bool wr), (.int .i64 o)] 170 (0, 0))], [Hp.one b23 (.cells #[(S (((waitsS v.keys o).map (·.key)).getD [])), (.bool (((waitsS v.keys o).map (·.wr)).getD false))] 74 (0, 0))], [Hp.one b6 (.cells #[(S k), (.bool wr)] 74 (0, 0))], R] := Has.cl2 (hH102.front 4 rfl)
              have hd105 : TbAt tb ([Hp.one tb (.cells #[(.map (some x1))] 164 (0, 0))] ++ sg100) (⟨(putB (putB v.keys k (⟨([] : List Plc), ([] : List Plc)⟩ : Ent)) k (⟨holdS (⟨([] : List Plc), ([] : List Plc)⟩ : Ent).hold (Plc.mk k wr o), (⟨([] : List Plc), ([] : List Plc)⟩ : Ent).line⟩ : Ent))⟩ : TabS) := TbAt.mk hd101
              have q106 : (⟨(askS v.keys o k wr).1⟩ : TabS) = (⟨(putB (putB v.keys k (⟨([] : List Plc), ([] : List Plc)⟩ : Ent)) k (⟨holdS (⟨([] : List Plc), ([] : List Plc)⟩ : Ent).hold (Plc.mk k wr o), (⟨([] : List Plc), ([] : List Plc)⟩ : Ent).line⟩ : Ent))⟩ : TabS) := by rw [hak_]
              have hH107 : Has E w98 [([Hp.one tb (.cells #[(.map (some x1))] 164 (0, 0))] ++ sg100), R] := ((hH104.front 4 rfl).front 1 rfl).first 2 rfl
              exact ⟨_, by rw [q103], (by rw [q106]; exact hd105), hH107⟩
            · -- not: ((([] : List Plc).length : Nat) : Int) = 0
              refine wp_skip ?_
              refine b_norm ?_
              refine t_norm (hK82 _ _ ?_)
              refine wp_seq_k fun K108 hK108 => ?_
              refine c_region ?_
              refine s_op (o_move (v := (.pointer (some ⟨b51, 0, none⟩))) rfl ?_)
              refine s_op (o_loadN (cs := [(S k), (.bool wr), (.int .i64 o)]) Try.underlying170 rfl ti170 rfl hH87 (seg_sub 3 rfl) (CellsAt.one rfl) ?_)
              have hH109 : Has E w88 [([Hp.one b51 (.cells #[x71, x72] 168 (0, 0))] ++ (s73 ++ s74)), [Hp.one b65 (.cells #[(S k), (.bool wr), (.int .i64 o)] 170 (0, 0))], sr60, [Hp.one b23 (.cells #[(S (((waitsS v.keys o).map (·.key)).getD [])), (.bool (((waitsS v.keys o).map (·.wr)).getD false))] 74 (0, 0))], [Hp.one b6 (.cells #[(S k), (.bool wr)] 74 (0, 0))], [Hp.one tb (.cells #[(.map (some x1))] 164 (0, 0))], R] := Has.cl3 (((hH87.front 2 rfl).front 2 rfl).front 2 rfl)
              have hd110 : EntAt b51 ([Hp.one b51 (.cells #[x71, x72] 168 (0, 0))] ++ (s73 ++ s74)) (⟨([] : List Plc), ([] : List Plc)⟩ : Ent) := EntAt.mk f75 f76
              refine s_op (o_callf (vs := #[(.pointer (some ⟨b51, 0, none⟩)), (.agg #[(S k), (.bool wr), (.int .i64 o)])]) ca93 rfl (args2 rfl rfl) (wait_c (v := (⟨([] : List Plc), ([] : List Plc)⟩ : Ent)) (p := (Plc.mk k wr o)) hH109.all1 hd110 (by first | omega | (simp only []; omega) | (simp; done) | (simp; omega))) ?_)
              rintro _ w115 ⟨sg111, rfl, hd112, hX113⟩
              refine ⟨_, rfl, ?_⟩
              have hH114 : Has E w115 [sg111, [Hp.one b65 (.cells #[(S k), (.bool wr), (.int .i64 o)] 170 (0, 0))], sr60, [Hp.one b23 (.cells #[(S (((waitsS v.keys o).map (·.key)).getD [])), (.bool (((waitsS v.keys o).map (·.wr)).getD false))] 74 (0, 0))], [Hp.one b6 (.cells #[(S k), (.bool wr)] 74 (0, 0))], [Hp.one tb (.cells #[(.map (some x1))] 164 (0, 0))], R] := hX113.of_all1
              refine s_nil ?_
              refine t_norm (hK108 _ _ ?_)
              refine wp_seq_k fun K116 hK116 => ?_
              refine c_region ?_
              refine s_op (o_assign (v := (.int .i64 10)) rfl ?_)
              refine s_nil ?_
              refine t_norm (hK116 _ _ ?_)
              refine wp_ret ?_
              refine c_ret1 Try.results39  (v := (.int .i64 10)) rfl ?_
              obtain ⟨sg117, hd118, hH119⟩ := DirHole.close hh62 hd112 ((hH114.front 2 rfl).front 1 rfl)
              have hd118 : DirAt S EntAt x1 sg117 (putB (putB v.keys k (⟨([] : List Plc), ([] : List Plc)⟩ : Ent)) k (⟨(⟨([] : List Plc), ([] : List Plc)⟩ : Ent).hold, waitS (⟨([] : List Plc), ([] : List Plc)⟩ : Ent).hold (⟨([] : List Plc), ([] : List Plc)⟩ : Ent).line (Plc.mk k wr o)⟩ : Ent)) := hd118
              have hh0_ : ¬ (0 : Int) ≤ atS ([] : List Plc) o := by rw [at_nil]; decide
              have hn1_ : ¬ (0 ≤ atS (⟨[], []⟩ : Ent).hold o ∧ ((((⟨[], []⟩ : Ent).hold[(atS (⟨[], []⟩ : Ent).hold o).toNat]?).map (·.wr)).getD false = true ∨ wr = false)) := fun g_ => h84 g_.1
              have hae_ : askE (⟨[], []⟩ : Ent) ⟨k, wr, o⟩ = ((⟨(⟨[], []⟩ : Ent).hold, waitS (⟨[], []⟩ : Ent).hold (⟨[], []⟩ : Ent).line ⟨k, wr, o⟩⟩ : Ent), 10) := by rw [askE, if_neg hn1_, if_neg (fun g_ => g_.2.elim h84 (fun g_ => h90 rfl))]
              have hak_ := ask_state h11 (by simpa using h29) (Eq.trans (by rw [ent_none hN39]) hae_)
              rw [← putB_putB k (⟨[], []⟩ : Ent)] at hak_
              have q120 : (askS v.keys o k wr).2 = 10 := by rw [hak_]
              have hH121 : Has E w115 [([Hp.one tb (.cells #[(.map (some x1))] 164 (0, 0))] ++ sg117), [Hp.one b65 (.cells #[(S k), (.bool wr), (.int .i64 o)] 170 (0, 0))], [Hp.one b23 (.cells #[(S (((waitsS v.keys o).map (·.key)).getD [])), (.bool (((waitsS v.keys o).map (·.wr)).getD false))] 74 (0, 0))], [Hp.one b6 (.cells #[(S k), (.bool wr)] 74 (0, 0))], R] := Has.cl2 (hH119.front 4 rfl)
              have hd122 : TbAt tb ([Hp.one tb (.cells #[(.map (some x1))] 164 (0, 0))] ++ sg117) (⟨(putB (putB v.keys k (⟨([] : List Plc), ([] : List Plc)⟩ : Ent)) k (⟨(⟨([] : List Plc), ([] : List Plc)⟩ : Ent).hold, waitS (⟨([] : List Plc), ([] : List Plc)⟩ : Ent).hold (⟨([] : List Plc), ([] : List Plc)⟩ : Ent).line (Plc.mk k wr o)⟩ : Ent))⟩ : TabS) := TbAt.mk hd118
              have q123 : (⟨(askS v.keys o k wr).1⟩ : TabS) = (⟨(putB (putB v.keys k (⟨([] : List Plc), ([] : List Plc)⟩ : Ent)) k (⟨(⟨([] : List Plc), ([] : List Plc)⟩ : Ent).hold, waitS (⟨([] : List Plc), ([] : List Plc)⟩ : Ent).hold (⟨([] : List Plc), ([] : List Plc)⟩ : Ent).line (Plc.mk k wr o)⟩ : Ent))⟩ : TabS) := by rw [hak_]
              have hH124 : Has E w115 [([Hp.one tb (.cells #[(.map (some x1))] 164 (0, 0))] ++ sg117), R] := ((hH121.front 4 rfl).front 1 rfl).first 2 rfl
              exact ⟨_, by rw [q120], (by rw [q123]; exact hd122), hH124⟩
          · -- not: freeS (⟨([] : List Plc), ([] : List Plc)⟩ : Ent).hold (Plc.mk k wr o)
            refine s_off (b' := false) 75 rfl (congrArg Value.bool h89) rfl ?_
            refine s_off (b' := false) 75 rfl (congrArg Value.bool h89) rfl ?_
            refine s_off (b' := false) 75 rfl (congrArg Value.bool h89) rfl ?_
            refine s_offu 78 rfl rfl ?_
            refine s_offu 78 rfl rfl ?_
            refine s_offu 78 rfl rfl ?_
            refine s_offu 78 rfl rfl ?_
            refine s_offu 78 rfl rfl ?_
            refine s_offu 78 rfl rfl ?_
            refine s_off (b' := false) 75 rfl (congrArg Value.bool h89) rfl ?_
            refine s_op (o_pick_f (u := (.bool false)) ((rfl : _ = _).trans (congrArg Value.bool h89)) rfl ?_)
            refine s_op (o_assign (v := (.bool false)) rfl ?_)
            refine s_nil ?_
            refine t_norm (hK85 _ _ ?_)
            refine c_false rfl rfl ?_
            refine wp_skip ?_
            refine b_norm ?_
            refine t_norm (hK82 _ _ ?_)
            refine wp_seq_k fun K125 hK125 => ?_
            refine c_region ?_
            refine s_op (o_move (v := (.pointer (some ⟨b51, 0, none⟩))) rfl ?_)
            refine s_op (o_loadN (cs := [(S k), (.bool wr), (.int .i64 o)]) Try.underlying170 rfl ti170 rfl hH87 (seg_sub 3 rfl) (CellsAt.one rfl) ?_)
            have hH126 : Has E w88 [([Hp.one b51 (.cells #[x71, x72] 168 (0, 0))] ++ (s73 ++ s74)), [Hp.one b65 (.cells #[(S k), (.bool wr), (.int .i64 o)] 170 (0, 0))], sr60, [Hp.one b23 (.cells #[(S (((waitsS v.keys o).map (·.key)).getD [])), (.bool (((waitsS v.keys o).map (·.wr)).getD false))] 74 (0, 0))], [Hp.one b6 (.cells #[(S k), (.bool wr)] 74 (0, 0))], [Hp.one tb (.cells #[(.map (some x1))] 164 (0, 0))], R] := Has.cl3 (((hH87.front 2 rfl).front 2 rfl).front 2 rfl)
            have hd127 : EntAt b51 ([Hp.one b51 (.cells #[x71, x72] 168 (0, 0))] ++ (s73 ++ s74)) (⟨([] : List Plc), ([] : List Plc)⟩ : Ent) := EntAt.mk f75 f76
            refine s_op (o_callf (vs := #[(.pointer (some ⟨b51, 0, none⟩)), (.agg #[(S k), (.bool wr), (.int .i64 o)])]) ca93 rfl (args2 rfl rfl) (wait_c (v := (⟨([] : List Plc), ([] : List Plc)⟩ : Ent)) (p := (Plc.mk k wr o)) hH126.all1 hd127 (by first | omega | (simp only []; omega) | (simp; done) | (simp; omega))) ?_)
            rintro _ w132 ⟨sg128, rfl, hd129, hX130⟩
            refine ⟨_, rfl, ?_⟩
            have hH131 : Has E w132 [sg128, [Hp.one b65 (.cells #[(S k), (.bool wr), (.int .i64 o)] 170 (0, 0))], sr60, [Hp.one b23 (.cells #[(S (((waitsS v.keys o).map (·.key)).getD [])), (.bool (((waitsS v.keys o).map (·.wr)).getD false))] 74 (0, 0))], [Hp.one b6 (.cells #[(S k), (.bool wr)] 74 (0, 0))], [Hp.one tb (.cells #[(.map (some x1))] 164 (0, 0))], R] := hX130.of_all1
            refine s_nil ?_
            refine t_norm (hK125 _ _ ?_)
            refine wp_seq_k fun K133 hK133 => ?_
            refine c_region ?_
            refine s_op (o_assign (v := (.int .i64 10)) rfl ?_)
            refine s_nil ?_
            refine t_norm (hK133 _ _ ?_)
            refine wp_ret ?_
            refine c_ret1 Try.results39  (v := (.int .i64 10)) rfl ?_
            obtain ⟨sg134, hd135, hH136⟩ := DirHole.close hh62 hd129 ((hH131.front 2 rfl).front 1 rfl)
            have hd135 : DirAt S EntAt x1 sg134 (putB (putB v.keys k (⟨([] : List Plc), ([] : List Plc)⟩ : Ent)) k (⟨(⟨([] : List Plc), ([] : List Plc)⟩ : Ent).hold, waitS (⟨([] : List Plc), ([] : List Plc)⟩ : Ent).hold (⟨([] : List Plc), ([] : List Plc)⟩ : Ent).line (Plc.mk k wr o)⟩ : Ent)) := hd135
            have hh0_ : ¬ (0 : Int) ≤ atS ([] : List Plc) o := by rw [at_nil]; decide
            have hn1_ : ¬ (0 ≤ atS (⟨[], []⟩ : Ent).hold o ∧ ((((⟨[], []⟩ : Ent).hold[(atS (⟨[], []⟩ : Ent).hold o).toNat]?).map (·.wr)).getD false = true ∨ wr = false)) := fun g_ => h84 g_.1
            have hae_ : askE (⟨[], []⟩ : Ent) ⟨k, wr, o⟩ = ((⟨(⟨[], []⟩ : Ent).hold, waitS (⟨[], []⟩ : Ent).hold (⟨[], []⟩ : Ent).line ⟨k, wr, o⟩⟩ : Ent), 10) := by rw [askE, if_neg hn1_, if_neg (fun g_ => by rw [h89] at g_; exact absurd g_.1 (by decide))]
            have hak_ := ask_state h11 (by simpa using h29) (Eq.trans (by rw [ent_none hN39]) hae_)
            rw [← putB_putB k (⟨[], []⟩ : Ent)] at hak_
            have q137 : (askS v.keys o k wr).2 = 10 := by rw [hak_]
            have hH138 : Has E w132 [([Hp.one tb (.cells #[(.map (some x1))] 164 (0, 0))] ++ sg134), [Hp.one b65 (.cells #[(S k), (.bool wr), (.int .i64 o)] 170 (0, 0))], [Hp.one b23 (.cells #[(S (((waitsS v.keys o).map (·.key)).getD [])), (.bool (((waitsS v.keys o).map (·.wr)).getD false))] 74 (0, 0))], [Hp.one b6 (.cells #[(S k), (.bool wr)] 74 (0, 0))], R] := Has.cl2 (hH136.front 4 rfl)
            have hd139 : TbAt tb ([Hp.one tb (.cells #[(.map (some x1))] 164 (0, 0))] ++ sg134) (⟨(putB (putB v.keys k (⟨([] : List Plc), ([] : List Plc)⟩ : Ent)) k (⟨(⟨([] : List Plc), ([] : List Plc)⟩ : Ent).hold, waitS (⟨([] : List Plc), ([] : List Plc)⟩ : Ent).hold (⟨([] : List Plc), ([] : List Plc)⟩ : Ent).line (Plc.mk k wr o)⟩ : Ent))⟩ : TabS) := TbAt.mk hd135
            have q140 : (⟨(askS v.keys o k wr).1⟩ : TabS) = (⟨(putB (putB v.keys k (⟨([] : List Plc), ([] : List Plc)⟩ : Ent)) k (⟨(⟨([] : List Plc), ([] : List Plc)⟩ : Ent).hold, waitS (⟨([] : List Plc), ([] : List Plc)⟩ : Ent).hold (⟨([] : List Plc), ([] : List Plc)⟩ : Ent).line (Plc.mk k wr o)⟩ : Ent))⟩ : TabS) := by rw [hak_]
            have hH141 : Has E w132 [([Hp.one tb (.cells #[(.map (some x1))] 164 (0, 0))] ++ sg134), R] := ((hH138.front 4 rfl).front 1 rfl).first 2 rfl
            exact ⟨_, by rw [q137], (by rw [q140]; exact hd139), hH141⟩
      · -- some
        have hs_ := hsz.get hS40
        refine r_op 7 rfl (by kernel_rfl) (o_assign (v := (.pointer (some ⟨b41, 0, none⟩))) rfl ?_)
        refine Rest.done (by kernel_rfl) ?_
        refine t_norm (hK36 _ _ ?_)
        refine wp_seq_k fun K142 hK142 => ?_
        refine wp_seq_k fun K143 hK143 => ?_
        refine c_region ?_
        refine s_op (o_move (v := (.pointer (some ⟨b41, 0, none⟩))) rfl ?_)
        refine s_op (o_pnil (p := some _) Try.underlying165 rfl rfl ?_)
        refine s_nil ?_
        refine t_norm (hK143 _ _ ?_)
        refine c_false rfl rfl ?_
        refine wp_skip ?_
        refine t_norm (hK142 _ _ ?_)
        refine wp_seq_k fun K144 hK144 => ?_
        refine c_region ?_
        refine s_op (o_loadN (cs := [(S k), (.bool wr)]) Try.underlying74 rfl ti74 rfl hH47 (seg_sub 3 rfl) (CellsAt.one rfl) ?_)
        refine s_op (o_move (v := (.int .i64 o)) rfl ?_)
        refine s_op (o_sight (v := (.agg #[(S k), (.bool wr), (.int .i64 o)])) (fun _ => by kernel_rfl) ?_)
        refine s_op (o_alloc (cs := #[(S ([] : List UInt8)), (.bool false), (.int .i64 0)]) ti170 rfl hH47 fun b145 w146 hH147 => ?_)
        refine s_eff (o_storeN (vs := [(S k), (.bool wr), (.int .i64 o)]) (c' := #[(S k), (.bool wr), (.int .i64 o)]) ti170 rfl rfl rfl rfl (by intro u hu; simp only [List.mem_cons, List.not_mem_nil, or_false] at hu; rcases hu with rfl | rfl | rfl <;> first | rfl) (by simp) (by kernel_rfl) (hH147.front 0 rfl) fun w148 hH149 => ?_)
        refine s_nil ?_
        refine t_norm (hK144 _ _ ?_)
        refine wp_seq_k fun K150 hK150 => ?_
        refine c_region ?_
        refine s_op (o_move (v := (.pointer (some ⟨b41, 0, none⟩))) rfl ?_)
        refine s_op (o_nilCheck rfl ?_)
        obtain ⟨x151, x152, s153, s154, rfl, f155, f156⟩ := hx45
        have hH157 : Has E w148 [[Hp.one b41 (.cells #[x151, x152] 168 (0, 0))], s153, s154, [Hp.one b145 (.cells #[(S k), (.bool wr), (.int .i64 o)] 170 (0, 0))], sr44, [Hp.one b23 (.cells #[(S (((waitsS v.keys o).map (·.key)).getD [])), (.bool (((waitsS v.keys o).map (·.wr)).getD false))] 74 (0, 0))], [Hp.one b6 (.cells #[(S k), (.bool wr)] 74 (0, 0))], [Hp.one tb (.cells #[(.map (some x1))] 164 (0, 0))], R] := Has.op3 (hH149.front 1 rfl)
        refine s_op (o_fieldAddr (k := 0) (fun _ => by kernel_rfl) rfl ?_)
        refine s_op (o_load1 (v := x151) Try.underlying166 rfl rfl hH157 (seg_sub 0 rfl) (CellsAt.one rfl) ?_)
        refine s_op (o_move (v := (.int .i64 o)) rfl ?_)
        refine s_op (o_callf (vs := #[x151, (.int .i64 o)]) ca90 rfl (args2 rfl rfl) (at_c (l := v42.hold) (o := o) hH157.all (f155.sl.mono (seg_sub 1 rfl))) ?_)
        rintro _ w160 ⟨rfl, hX158⟩
        refine ⟨_, rfl, ?_⟩
        have hH159 := hX158.of_all
        have := atS_lt v42.hold o
        refine s_op (o_assign (v := (.int .i64 (atS v42.hold o))) rfl ?_)
        refine s_nil ?_
        refine t_norm (hK150 _ _ ?_)
        refine wp_seq_k fun K161 hK161 => ?_
        refine wp_block ?_
        refine wp_seq_k fun K162 hK162 => ?_
        refine c_region ?_
        refine s_op (o_move (v := (.int .i64 (atS v42.hold o))) rfl ?_)
        refine s_op (o_geq (a := atS v42.hold o) (b := 0) rfl rfl ?_)
        refine s_op (o_move (v := (.bool (decide (0 ≤ atS v42.hold o)))) rfl ?_)
        by_cases h163 : 0 ≤ atS v42.hold o
        · -- 0 ≤ atS v42.hold o
          refine s_on 55 rfl (congrArg Value.bool (decide_eq_true h163)) (o_move (v := (.pointer (some ⟨b41, 0, none⟩))) rfl ?_)
          refine s_on 55 rfl (congrArg Value.bool (decide_eq_true h163)) (o_nilCheck rfl ?_)
          refine s_on 55 rfl (congrArg Value.bool (decide_eq_true h163)) (o_fieldAddr (k := 0) (fun _ => by kernel_rfl) rfl ?_)
          refine s_on 55 rfl (congrArg Value.bool (decide_eq_true h163)) (o_load1 (v := x151) Try.underlying166 rfl rfl hH159 (seg_sub 0 rfl) (CellsAt.one rfl) ?_)
          refine s_on 55 rfl (congrArg Value.bool (decide_eq_true h163)) (o_move (v := (.int .i64 (atS v42.hold o))) rfl ?_)
          obtain ⟨x167, hx168⟩ : ∃ x_, v42.hold[(atS v42.hold o).toNat]? = some x_ := get_some (by omega)
          refine s_on 55 rfl (congrArg Value.bool (decide_eq_true h163)) (o_indexF plC_len Try.underlying166 ti170 rfl f155.sl rfl rfl (by omega) hx168 fun b164 o165 hc166 => ?_)
          refine s_on 55 rfl (congrArg Value.bool (decide_eq_true h163)) (o_fieldAddr (k := o165) (fun _ => by kernel_rfl) rfl ?_)
          refine s_on 55 rfl (congrArg Value.bool (decide_eq_true h163)) (o_fieldAddr (k := o165 + 1) (fun _ => by kernel_rfl) rfl ?_)
          refine s_on 55 rfl (congrArg Value.bool (decide_eq_true h163)) (o_load1 (v := (.bool x167.wr)) Try.underlying4 rfl rfl hH159 (seg_sub 1 rfl) (CellsAt.field (k := 1) (ds := [(.bool x167.wr)]) (CellsAt.field (k := 0) (ds := [(S x167.key), (.bool x167.wr)]) hc166 rfl) rfl) ?_)
          refine s_on 55 rfl (congrArg Value.bool (decide_eq_true h163)) (o_move (v := (.bool x167.wr)) rfl ?_)
          rcases Bool.eq_false_or_eq_true x167.wr with h169 | h169
          · -- x167.wr
            refine s_off (b' := true) 65 rfl (congrArg Value.bool h169) rfl ?_
            refine s_off (b' := true) 65 rfl (congrArg Value.bool h169) rfl ?_
            refine s_off (b' := true) 65 rfl (congrArg Value.bool h169) rfl ?_
            refine s_on 55 rfl (congrArg Value.bool (decide_eq_true h163)) (o_pick_t (u := (.bool true)) ((rfl : _ = _).trans (congrArg Value.bool h169)) rfl ?_)
            refine s_op (o_pick_t (u := (.bool true)) ((rfl : _ = _).trans (congrArg Value.bool (decide_eq_true h163))) rfl ?_)
            refine s_op (o_assign (v := (.bool true)) rfl ?_)
            refine s_nil ?_
            refine t_norm (hK162 _ _ ?_)
            refine c_true rfl rfl ?_
            refine wp_seq_k fun K170 hK170 => ?_
            refine c_region ?_
            refine s_op (o_assign (v := (.int .i64 0)) rfl ?_)
            refine s_nil ?_
            refine t_norm (hK170 _ _ ?_)
            refine wp_ret ?_
            refine b_ret (t_ret (c_ret1 Try.results39  (v := (.int .i64 0)) rfl ?_))
            have hH171 : Has E w160 [([Hp.one b41 (.cells #[x151, x152] 168 (0, 0))] ++ (s153 ++ s154)), [Hp.one b145 (.cells #[(S k), (.bool wr), (.int .i64 o)] 170 (0, 0))], sr44, [Hp.one b23 (.cells #[(S (((waitsS v.keys o).map (·.key)).getD [])), (.bool (((waitsS v.keys o).map (·.wr)).getD false))] 74 (0, 0))], [Hp.one b6 (.cells #[(S k), (.bool wr)] 74 (0, 0))], [Hp.one tb (.cells #[(.map (some x1))] 164 (0, 0))], R] := Has.cl3 (((hH159.front 2 rfl).front 2 rfl).front 2 rfl)
            have hd172 : EntAt b41 ([Hp.one b41 (.cells #[x151, x152] 168 (0, 0))] ++ (s153 ++ s154)) v42 := EntAt.mk f155 f156
            obtain ⟨sg173, hd174, hH175⟩ := DirHole.close hh46 hd172 ((hH171.front 2 rfl).front 1 rfl)
            have hd174 : DirAt S EntAt x1 sg173 (putB v.keys k v42) := hd174
            have hx_ : v42.hold[(atS v42.hold o).toNat]? = some x167 := hx168
            have hae_ : askE v42 ⟨k, wr, o⟩ = (v42, 0) := by rw [askE, if_pos ⟨h163, by rw [hx_]; simp [h169]⟩]
            have hak_ := ask_state h11 (by simpa using h29) (Eq.trans (by rw [ent_some hS40]) hae_)
            have q176 : (askS v.keys o k wr).2 = 0 := by rw [hak_]
            have hH177 : Has E w160 [([Hp.one tb (.cells #[(.map (some x1))] 164 (0, 0))] ++ sg173), [Hp.one b145 (.cells #[(S k), (.bool wr), (.int .i64 o)] 170 (0, 0))], [Hp.one b23 (.cells #[(S (((waitsS v.keys o).map (·.key)).getD [])), (.bool (((waitsS v.keys o).map (·.wr)).getD false))] 74 (0, 0))], [Hp.one b6 (.cells #[(S k), (.bool wr)] 74 (0, 0))], R] := Has.cl2 (hH175.front 4 rfl)
            have hd178 : TbAt tb ([Hp.one tb (.cells #[(.map (some x1))] 164 (0, 0))] ++ sg173) (⟨(putB v.keys k v42)⟩ : TabS) := TbAt.mk hd174
            have q179 : (⟨(askS v.keys o k wr).1⟩ : TabS) = (⟨(putB v.keys k v42)⟩ : TabS) := by rw [hak_]
            have hH180 : Has E w160 [([Hp.one tb (.cells #[(.map (some x1))] 164 (0, 0))] ++ sg173), R] := ((hH177.front 4 rfl).front 1 rfl).first 2 rfl
            exact ⟨_, by rw [q176], (by rw [q179]; exact hd178), hH180⟩
          · -- not: x167.wr
            refine s_on 65 rfl (congrArg Value.bool h169) (o_fieldAddr (k := 1) (fun _ => by kernel_rfl) rfl ?_)
            refine s_on 65 rfl (congrArg Value.bool h169) (o_load1 (v := (.bool wr)) Try.underlying4 rfl rfl hH159 (seg_sub 6 rfl) (CellsAt.one rfl) ?_)
            refine s_on 65 rfl (congrArg Value.bool h169) (o_not rfl ?_)
            refine s_on 55 rfl (congrArg Value.bool (decide_eq_true h163)) (o_pick_f (u := (.bool (!wr))) ((rfl : _ = _).trans (congrArg Value.bool h169)) rfl ?_)
            refine s_op (o_pick_t (u := (.bool (!wr))) ((rfl : _ = _).trans (congrArg Value.bool (decide_eq_true h163))) rfl ?_)
            refine s_op (o_assign (v := (.bool (!wr))) rfl ?_)
            refine s_nil ?_
            refine t_norm (hK162 _ _ ?_)
            refine c_condb rfl (fun h181 => ?_) (fun h181 => ?_)
            · -- !wr
              have h181_n : wr = false := by simpa using h181
              refine wp_seq_k fun K182 hK182 => ?_
              refine c_region ?_
              refine s_op (o_assign (v := (.int .i64 0)) rfl ?_)
              refine s_nil ?_
              refine t_norm (hK182 _ _ ?_)
              refine wp_ret ?_
              refine b_ret (t_ret (c_ret1 Try.results39  (v := (.int .i64 0)) rfl ?_))
              have hH183 : Has E w160 [([Hp.one b41 (.cells #[x151, x152] 168 (0, 0))] ++ (s153 ++ s154)), [Hp.one b145 (.cells #[(S k), (.bool wr), (.int .i64 o)] 170 (0, 0))], sr44, [Hp.one b23 (.cells #[(S (((waitsS v.keys o).map (·.key)).getD [])), (.bool (((waitsS v.keys o).map (·.wr)).getD false))] 74 (0, 0))], [Hp.one b6 (.cells #[(S k), (.bool wr)] 74 (0, 0))], [Hp.one tb (.cells #[(.map (some x1))] 164 (0, 0))], R] := Has.cl3 (((hH159.front 2 rfl).front 2 rfl).front 2 rfl)
              have hd184 : EntAt b41 ([Hp.one b41 (.cells #[x151, x152] 168 (0, 0))] ++ (s153 ++ s154)) v42 := EntAt.mk f155 f156
              obtain ⟨sg185, hd186, hH187⟩ := DirHole.close hh46 hd184 ((hH183.front 2 rfl).front 1 rfl)
              have hd186 : DirAt S EntAt x1 sg185 (putB v.keys k v42) := hd186
              have hx_ : v42.hold[(atS v42.hold o).toNat]? = some x167 := hx168
              have hae_ : askE v42 ⟨k, wr, o⟩ = (v42, 0) := by rw [askE, if_pos ⟨h163, by rw [hx_]; simp [h169, h181_n]⟩]
              have hak_ := ask_state h11 (by simpa using h29) (Eq.trans (by rw [ent_some hS40]) hae_)
              have q188 : (askS v.keys o k wr).2 = 0 := by rw [hak_]
              have hH189 : Has E w160 [([Hp.one tb (.cells #[(.map (some x1))] 164 (0, 0))] ++ sg185), [Hp.one b145 (.cells #[(S k), (.bool wr), (.int .i64 o)] 170 (0, 0))], [Hp.one b23 (.cells #[(S (((waitsS v.keys o).map (·.key)).getD [])), (.bool (((waitsS v.keys o).map (·.wr)).getD false))] 74 (0, 0))], [Hp.one b6 (.cells #[(S k), (.bool wr)] 74 (0, 0))], R] := Has.cl2 (hH187.front 4 rfl)
              have hd190 : TbAt tb ([Hp.one tb (.cells #[(.map (some x1))] 164 (0, 0))] ++ sg185) (⟨(putB v.keys k v42)⟩ : TabS) := TbAt.mk hd186
              have q191 : (⟨(askS v.keys o k wr).1⟩ : TabS) = (⟨(putB v.keys k v42)⟩ : TabS) := by rw [hak_]
              have hH192 : Has E w160 [([Hp.one tb (.cells #[(.map (some x1))] 164 (0, 0))] ++ sg185), R] := ((hH189.front 4 rfl).front 1 rfl).first 2 rfl
              exact ⟨_, by rw [q188], (by rw [q191]; exact hd190), hH192⟩
            · -- not: !wr
              have h181_n : wr = true := by simpa using h181
              refine wp_seq_k fun K193 hK193 => ?_
              refine c_region ?_
              refine s_op (o_move (v := (.pointer (some ⟨b41, 0, none⟩))) rfl ?_)
              refine s_op (o_loadN (cs := [(S k), (.bool wr), (.int .i64 o)]) Try.underlying170 rfl ti170 rfl hH159 (seg_sub 3 rfl) (CellsAt.one rfl) ?_)
              refine s_op (o_callf (vs := #[(.pointer (some ⟨b41, 0, none⟩)), (.agg #[(S k), (.bool wr), (.int .i64 o)])]) ca91 rfl (args2 rfl rfl) (free_c (v := v42) (p := (Plc.mk k wr o)) hH159.all (EntRd.mk (v := v42) ((CellsAt.one rfl).mono (seg_sub 0 rfl)) (f155.sl.mono (seg_sub 1 rfl)) (f156.sl.mono (seg_sub 2 rfl)))) ?_)
              rintro _ w196 ⟨rfl, hX194⟩
              refine ⟨_, rfl, ?_⟩
              have hH195 := hX194.of_all
              refine s_op (o_move (v := (.bool (freeS v42.hold (Plc.mk k wr o)))) rfl ?_)
              rcases Bool.eq_false_or_eq_true (freeS v42.hold (Plc.mk k wr o)) with h197 | h197
              · -- freeS v42.hold (Plc.mk k wr o)
                refine s_on 75 rfl (congrArg Value.bool h197) (o_move (v := (.int .i64 (atS v42.hold o))) rfl ?_)
                refine s_on 75 rfl (congrArg Value.bool h197) (o_geq (a := atS v42.hold o) (b := 0) rfl rfl ?_)
                refine s_on 75 rfl (congrArg Value.bool h197) (o_move (v := (.bool (decide (0 ≤ atS v42.hold o)))) rfl ?_)
                refine s_off (b' := true) 78 rfl (congrArg Value.bool (decide_eq_true h163)) rfl ?_
                refine s_off (b' := true) 78 rfl (congrArg Value.bool (decide_eq_true h163)) rfl ?_
                refine s_off (b' := true) 78 rfl (congrArg Value.bool (decide_eq_true h163)) rfl ?_
                refine s_off (b' := true) 78 rfl (congrArg Value.bool (decide_eq_true h163)) rfl ?_
                refine s_off (b' := true) 78 rfl (congrArg Value.bool (decide_eq_true h163)) rfl ?_
                refine s_off (b' := true) 78 rfl (congrArg Value.bool (decide_eq_true h163)) rfl ?_
                refine s_on 75 rfl (congrArg Value.bool h197) (o_pick_t (u := (.bool true)) ((rfl : _ = _).trans (congrArg Value.bool (decide_eq_true h163))) rfl ?_)
                refine s_op (o_pick_t (u := (.bool true)) ((rfl : _ = _).trans (congrArg Value.bool h197)) rfl ?_)
                refine s_op (o_assign (v := (.bool true)) rfl ?_)
                refine s_nil ?_
                refine t_norm (hK193 _ _ ?_)
                refine c_true rfl rfl ?_
                refine wp_seq_k fun K198 hK198 => ?_
                refine c_region ?_
                refine s_op (o_move (v := (.pointer (some ⟨b41, 0, none⟩))) rfl ?_)
                refine s_op (o_loadN (cs := [(S k), (.bool wr), (.int .i64 o)]) Try.underlying170 rfl ti170 rfl hH195 (seg_sub 3 rfl) (CellsAt.one rfl) ?_)
                have hH199 : Has E w196 [([Hp.one b41 (.cells #[x151, x152] 168 (0, 0))] ++ (s153 ++ s154)), [Hp.one b145 (.cells #[(S k), (.bool wr), (.int .i64 o)] 170 (0, 0))], sr44, [Hp.one b23 (.cells #[(S (((waitsS v.keys o).map (·.key)).getD [])), (.bool (((waitsS v.keys o).map (·.wr)).getD false))] 74 (0, 0))], [Hp.one b6 (.cells #[(S k), (.bool wr)] 74 (0, 0))], [Hp.one tb (.cells #[(.map (some x1))] 164 (0, 0))], R] := Has.cl3 (((hH195.front 2 rfl).front 2 rfl).front 2 rfl)
                have hd200 : EntAt b41 ([Hp.one b41 (.cells #[x151, x152] 168 (0, 0))] ++ (s153 ++ s154)) v42 := EntAt.mk f155 f156
                refine s_op (o_callf (vs := #[(.pointer (some ⟨b41, 0, none⟩)), (.agg #[(S k), (.bool wr), (.int .i64 o)])]) ca92 rfl (args2 rfl rfl) (hold_c (v := v42) (p := (Plc.mk k wr o)) hH199.all1 hd200 (by first | omega | (simp only []; omega) | (simp; done) | (simp; omega))) ?_)
                rintro _ w205 ⟨sg201, rfl, hd202, hX203⟩
                refine ⟨_, rfl, ?_⟩
                have hH204 : Has E w205 [sg201, [Hp.one b145 (.cells #[(S k), (.bool wr), (.int .i64 o)] 170 (0, 0))], sr44, [Hp.one b23 (.cells #[(S (((waitsS v.keys o).map (·.key)).getD [])), (.bool (((waitsS v.keys o).map (·.wr)).getD false))] 74 (0, 0))], [Hp.one b6 (.cells #[(S k), (.bool wr)] 74 (0, 0))], [Hp.one tb (.cells #[(.map (some x1))] 164 (0, 0))], R] := hX203.of_all1
                refine s_nil ?_
                refine t_norm (hK198 _ _ ?_)
                refine wp_seq_k fun K206 hK206 => ?_
                refine c_region ?_
                refine s_op (o_assign (v := (.int .i64 0)) rfl ?_)
                refine s_nil ?_
                refine t_norm (hK206 _ _ ?_)
                refine wp_ret ?_
                refine b_ret (t_ret (c_ret1 Try.results39  (v := (.int .i64 0)) rfl ?_))
                obtain ⟨sg207, hd208, hH209⟩ := DirHole.close hh46 hd202 ((hH204.front 2 rfl).front 1 rfl)
                have hd208 : DirAt S EntAt x1 sg207 (putB v.keys k (⟨holdS v42.hold (Plc.mk k wr o), v42.line⟩ : Ent)) := hd208
                have hx_ : v42.hold[(atS v42.hold o).toNat]? = some x167 := hx168
                have hn1_ : ¬ (0 ≤ atS v42.hold o ∧ (((v42.hold[(atS v42.hold o).toNat]?).map (·.wr)).getD false = true ∨ wr = false)) := by rw [hx_]; simp [h169, h181_n]
                have hae_ : askE v42 ⟨k, wr, o⟩ = ((⟨holdS v42.hold ⟨k, wr, o⟩, v42.line⟩ : Ent), 0) := by rw [askE, if_neg hn1_, if_pos ⟨h197, .inl h163⟩]
                have hak_ := ask_state h11 (by simpa using h29) (Eq.trans (by rw [ent_some hS40]) hae_)
                have q210 : (askS v.keys o k wr).2 = 0 := by rw [hak_]
                have hH211 : Has E w205 [([Hp.one tb (.cells #[(.map (some x1))] 164 (0, 0))] ++ sg207), [Hp.one b145 (.cells #[(S k), (.bool wr), (.int .i64 o)] 170 (0, 0))], [Hp.one b23 (.cells #[(S (((waitsS v.keys o).map (·.key)).getD [])), (.bool (((waitsS v.keys o).map (·.wr)).getD false))] 74 (0, 0))], [Hp.one b6 (.cells #[(S k), (.bool wr)] 74 (0, 0))], R] := Has.cl2 (hH209.front 4 rfl)
                have hd212 : TbAt tb ([Hp.one tb (.cells #[(.map (some x1))] 164 (0, 0))] ++ sg207) (⟨(putB v.keys k (⟨holdS v42.hold (Plc.mk k wr o), v42.line⟩ : Ent))⟩ : TabS) := TbAt.mk hd208
                have q213 : (⟨(askS v.keys o k wr).1⟩ : TabS) = (⟨(putB v.keys k (⟨holdS v42.hold (Plc.mk k wr o), v42.line⟩ : Ent))⟩ : TabS) := by rw [hak_]
                have hH214 : Has E w205 [([Hp.one tb (.cells #[(.map (some x1))] 164 (0, 0))] ++ sg207), R] := ((hH211.front 4 rfl).front 1 rfl).first 2 rfl
                exact ⟨_, by rw [q210], (by rw [q213]; exact hd212), hH214⟩
              · -- not: freeS v42.hold (Plc.mk k wr o)
                refine s_off (b' := false) 75 rfl (congrArg Value.bool h197) rfl ?_
                refine s_off (b' := false) 75 rfl (congrArg Value.bool h197) rfl ?_
                refine s_off (b' := false) 75 rfl (congrArg Value.bool h197) rfl ?_
                refine s_offu 78 rfl rfl ?_
                refine s_offu 78 rfl rfl ?_
                refine s_offu 78 rfl rfl ?_
                refine s_offu 78 rfl rfl ?_
                refine s_offu 78 rfl rfl ?_
                refine s_offu 78 rfl rfl ?_
                refine s_off (b' := false) 75 rfl (congrArg Value.bool h197) rfl ?_
                refine s_op (o_pick_f (u := (.bool false)) ((rfl : _ = _).trans (congrArg Value.bool h197)) rfl ?_)
                refine s_op (o_assign (v := (.bool false)) rfl ?_)
                refine s_nil ?_
                refine t_norm (hK193 _ _ ?_)
                refine c_false rfl rfl ?_
                refine wp_skip ?_
                refine b_norm ?_
                refine t_norm (hK161 _ _ ?_)
                refine wp_seq_k fun K215 hK215 => ?_
                refine c_region ?_
                refine s_op (o_move (v := (.pointer (some ⟨b41, 0, none⟩))) rfl ?_)
                refine s_op (o_loadN (cs := [(S k), (.bool wr), (.int .i64 o)]) Try.underlying170 rfl ti170 rfl hH195 (seg_sub 3 rfl) (CellsAt.one rfl) ?_)
                have hH216 : Has E w196 [([Hp.one b41 (.cells #[x151, x152] 168 (0, 0))] ++ (s153 ++ s154)), [Hp.one b145 (.cells #[(S k), (.bool wr), (.int .i64 o)] 170 (0, 0))], sr44, [Hp.one b23 (.cells #[(S (((waitsS v.keys o).map (·.key)).getD [])), (.bool (((waitsS v.keys o).map (·.wr)).getD false))] 74 (0, 0))], [Hp.one b6 (.cells #[(S k), (.bool wr)] 74 (0, 0))], [Hp.one tb (.cells #[(.map (some x1))] 164 (0, 0))], R] := Has.cl3 (((hH195.front 2 rfl).front 2 rfl).front 2 rfl)
                have hd217 : EntAt b41 ([Hp.one b41 (.cells #[x151, x152] 168 (0, 0))] ++ (s153 ++ s154)) v42 := EntAt.mk f155 f156
                refine s_op (o_callf (vs := #[(.pointer (some ⟨b41, 0, none⟩)), (.agg #[(S k), (.bool wr), (.int .i64 o)])]) ca93 rfl (args2 rfl rfl) (wait_c (v := v42) (p := (Plc.mk k wr o)) hH216.all1 hd217 (by first | omega | (simp only []; omega) | (simp; done) | (simp; omega))) ?_)
                rintro _ w222 ⟨sg218, rfl, hd219, hX220⟩
                refine ⟨_, rfl, ?_⟩
                have hH221 : Has E w222 [sg218, [Hp.one b145 (.cells #[(S k), (.bool wr), (.int .i64 o)] 170 (0, 0))], sr44, [Hp.one b23 (.cells #[(S (((waitsS v.keys o).map (·.key)).getD [])), (.bool (((waitsS v.keys o).map (·.wr)).getD false))] 74 (0, 0))], [Hp.one b6 (.cells #[(S k), (.bool wr)] 74 (0, 0))], [Hp.one tb (.cells #[(.map (some x1))] 164 (0, 0))], R] := hX220.of_all1
                refine s_nil ?_
                refine t_norm (hK215 _ _ ?_)
                refine wp_seq_k fun K223 hK223 => ?_
                refine c_region ?_
                refine s_op (o_assign (v := (.int .i64 10)) rfl ?_)
                refine s_nil ?_
                refine t_norm (hK223 _ _ ?_)
                refine wp_ret ?_
                refine c_ret1 Try.results39  (v := (.int .i64 10)) rfl ?_
                obtain ⟨sg224, hd225, hH226⟩ := DirHole.close hh46 hd219 ((hH221.front 2 rfl).front 1 rfl)
                have hd225 : DirAt S EntAt x1 sg224 (putB v.keys k (⟨v42.hold, waitS v42.hold v42.line (Plc.mk k wr o)⟩ : Ent)) := hd225
                have hx_ : v42.hold[(atS v42.hold o).toNat]? = some x167 := hx168
                have hn1_ : ¬ (0 ≤ atS v42.hold o ∧ (((v42.hold[(atS v42.hold o).toNat]?).map (·.wr)).getD false = true ∨ wr = false)) := by rw [hx_]; simp [h169, h181_n]
                have hae_ : askE v42 ⟨k, wr, o⟩ = ((⟨v42.hold, waitS v42.hold v42.line ⟨k, wr, o⟩⟩ : Ent), 10) := by rw [askE, if_neg hn1_, if_neg (fun g_ => by rw [h197] at g_; exact absurd g_.1 (by decide))]
                have hak_ := ask_state h11 (by simpa using h29) (Eq.trans (by rw [ent_some hS40]) hae_)
                have q227 : (askS v.keys o k wr).2 = 10 := by rw [hak_]
                have hH228 : Has E w222 [([Hp.one tb (.cells #[(.map (some x1))] 164 (0, 0))] ++ sg224), [Hp.one b145 (.cells #[(S k), (.bool wr), (.int .i64 o)] 170 (0, 0))], [Hp.one b23 (.cells #[(S (((waitsS v.keys o).map (·.key)).getD [])), (.bool (((waitsS v.keys o).map (·.wr)).getD false))] 74 (0, 0))], [Hp.one b6 (.cells #[(S k), (.bool wr)] 74 (0, 0))], R] := Has.cl2 (hH226.front 4 rfl)
                have hd229 : TbAt tb ([Hp.one tb (.cells #[(.map (some x1))] 164 (0, 0))] ++ sg224) (⟨(putB v.keys k (⟨v42.hold, waitS v42.hold v42.line (Plc.mk k wr o)⟩ : Ent))⟩ : TabS) := TbAt.mk hd225
                have q230 : (⟨(askS v.keys o k wr).1⟩ : TabS) = (⟨(putB v.keys k (⟨v42.hold, waitS v42.hold v42.line (Plc.mk k wr o)⟩ : Ent))⟩ : TabS) := by rw [hak_]
                have hH231 : Has E w222 [([Hp.one tb (.cells #[(.map (some x1))] 164 (0, 0))] ++ sg224), R] := ((hH228.front 4 rfl).front 1 rfl).first 2 rfl
                exact ⟨_, by rw [q227], (by rw [q230]; exact hd229), hH231⟩
        · -- not: 0 ≤ atS v42.hold o
          refine s_off (b' := false) 55 rfl (congrArg Value.bool (decide_eq_false h163)) rfl ?_
          refine s_off (b' := false) 55 rfl (congrArg Value.bool (decide_eq_false h163)) rfl ?_
          refine s_off (b' := false) 55 rfl (congrArg Value.bool (decide_eq_false h163)) rfl ?_
          refine s_off (b' := false) 55 rfl (congrArg Value.bool (decide_eq_false h163)) rfl ?_
          refine s_off (b' := false) 55 rfl (congrArg Value.bool (decide_eq_false h163)) rfl ?_
          refine s_off (b' := false) 55 rfl (congrArg Value.bool (decide_eq_false h163)) rfl ?_
          refine s_off (b' := false) 55 rfl (congrArg Value.bool (decide_eq_false h163)) rfl ?_
          refine s_off (b' := false) 55 rfl (congrArg Value.bool (decide_eq_false h163)) rfl ?_
          refine s_off (b' := false) 55 rfl (congrArg Value.bool (decide_eq_false h163)) rfl ?_
          refine s_off (b' := false) 55 rfl (congrArg Value.bool (decide_eq_false h163)) rfl ?_
          refine s_offu 65 rfl rfl ?_
          refine s_offu 65 rfl rfl ?_
          refine s_offu 65 rfl rfl ?_
          refine s_off (b' := false) 55 rfl (congrArg Value.bool (decide_eq_false h163)) rfl ?_
          refine s_op (o_pick_f (u := (.bool false)) ((rfl : _ = _).trans (congrArg Value.bool (decide_eq_false h163))) rfl ?_)
          refine s_op (o_assign (v := (.bool false)) rfl ?_)
          refine s_nil ?_
          refine t_norm (hK162 _ _ ?_)
          refine c_false rfl rfl ?_
          refine wp_seq_k fun K232 hK232 => ?_
          refine c_region ?_
          refine s_op (o_move (v := (.pointer (some ⟨b41, 0, none⟩))) rfl ?_)
          refine s_op (o_loadN (cs := [(S k), (.bool wr), (.int .i64 o)]) Try.underlying170 rfl ti170 rfl hH159 (seg_sub 3 rfl) (CellsAt.one rfl) ?_)
          refine s_op (o_callf (vs := #[(.pointer (some ⟨b41, 0, none⟩)), (.agg #[(S k), (.bool wr), (.int .i64 o)])]) ca91 rfl (args2 rfl rfl) (free_c (v := v42) (p := (Plc.mk k wr o)) hH159.all (EntRd.mk (v := v42) ((CellsAt.one rfl).mono (seg_sub 0 rfl)) (f155.sl.mono (seg_sub 1 rfl)) (f156.sl.mono (seg_sub 2 rfl)))) ?_)
          rintro _ w235 ⟨rfl, hX233⟩
          refine ⟨_, rfl, ?_⟩
          have hH234 := hX233.of_all
          refine s_op (o_move (v := (.bool (freeS v42.hold (Plc.mk k wr o)))) rfl ?_)
          rcases Bool.eq_false_or_eq_true (freeS v42.hold (Plc.mk k wr o)) with h236 | h236
          · -- freeS v42.hold (Plc.mk k wr o)
            refine s_on 75 rfl (congrArg Value.bool h236) (o_move (v := (.int .i64 (atS v42.hold o))) rfl ?_)
            refine s_on 75 rfl (congrArg Value.bool h236) (o_geq (a := atS v42.hold o) (b := 0) rfl rfl ?_)
            refine s_on 75 rfl (congrArg Value.bool h236) (o_move (v := (.bool (decide (0 ≤ atS v42.hold o)))) rfl ?_)
            refine s_on 78 rfl (congrArg Value.bool (decide_eq_false h163)) (o_move (v := (.pointer (some ⟨b41, 0, none⟩))) rfl ?_)
            refine s_on 78 rfl (congrArg Value.bool (decide_eq_false h163)) (o_nilCheck rfl ?_)
            refine s_on 78 rfl (congrArg Value.bool (decide_eq_false h163)) (o_fieldAddr (k := 1) (fun _ => by kernel_rfl) rfl ?_)
            refine s_on 78 rfl (congrArg Value.bool (decide_eq_false h163)) (o_load1 (v := x152) Try.underlying166 rfl rfl hH234 (seg_sub 0 rfl) (CellsAt.one rfl) ?_)
            refine s_on 78 rfl (congrArg Value.bool (decide_eq_false h163)) (o_lenS Try.underlying166 rfl f156.sl ?_)
            refine s_on 78 rfl (congrArg Value.bool (decide_eq_false h163)) (o_eql (a := ((v42.line.length : Nat) : Int)) (b := 0) rfl rfl ?_)
            refine s_on 75 rfl (congrArg Value.bool h236) (o_pick_f (u := (.bool (decide (((v42.line.length : Nat) : Int) = 0)))) ((rfl : _ = _).trans (congrArg Value.bool (decide_eq_false h163))) rfl ?_)
            refine s_op (o_pick_t (u := (.bool (decide (((v42.line.length : Nat) : Int) = 0)))) ((rfl : _ = _).trans (congrArg Value.bool h236)) rfl ?_)
            refine s_op (o_assign (v := (.bool (decide (((v42.line.length : Nat) : Int) = 0)))) rfl ?_)
            refine s_nil ?_
            refine t_norm (hK232 _ _ ?_)
            refine c_cond rfl (fun h237 => ?_) (fun h237 => ?_)
            · -- ((v42.line.length : Nat) : Int) = 0
              refine wp_seq_k fun K238 hK238 => ?_
              refine c_region ?_
              refine s_op (o_move (v := (.pointer (some ⟨b41, 0, none⟩))) rfl ?_)
              refine s_op (o_loadN (cs := [(S k), (.bool wr), (.int .i64 o)]) Try.underlying170 rfl ti170 rfl hH234 (seg_sub 3 rfl) (CellsAt.one rfl) ?_)
              have hH239 : Has E w235 [([Hp.one b41 (.cells #[x151, x152] 168 (0, 0))] ++ (s153 ++ s154)), [Hp.one b145 (.cells #[(S k), (.bool wr), (.int .i64 o)] 170 (0, 0))], sr44, [Hp.one b23 (.cells #[(S (((waitsS v.keys o).map (·.key)).getD [])), (.bool (((waitsS v.keys o).map (·.wr)).getD false))] 74 (0, 0))], [Hp.one b6 (.cells #[(S k), (.bool wr)] 74 (0, 0))], [Hp.one tb (.cells #[(.map (some x1))] 164 (0, 0))], R] := Has.cl3 (((hH234.front 2 rfl).front 2 rfl).front 2 rfl)
              have hd240 : EntAt b41 ([Hp.one b41 (.cells #[x151, x152] 168 (0, 0))] ++ (s153 ++ s154)) v42 := EntAt.mk f155 f156
              refine s_op (o_callf (vs := #[(.pointer (some ⟨b41, 0, none⟩)), (.agg #[(S k), (.bool wr), (.int .i64 o)])]) ca92 rfl (args2 rfl rfl) (hold_c (v := v42) (p := (Plc.mk k wr o)) hH239.all1 hd240 (by first | omega | (simp only []; omega) | (simp; done) | (simp; omega))) ?_)
              rintro _ w245 ⟨sg241, rfl, hd242, hX243⟩
              refine ⟨_, rfl, ?_⟩
              have hH244 : Has E w245 [sg241, [Hp.one b145 (.cells #[(S k), (.bool wr), (.int .i64 o)] 170 (0, 0))], sr44, [Hp.one b23 (.cells #[(S (((waitsS v.keys o).map (·.key)).getD [])), (.bool (((waitsS v.keys o).map (·.wr)).getD false))] 74 (0, 0))], [Hp.one b6 (.cells #[(S k), (.bool wr)] 74 (0, 0))], [Hp.one tb (.cells #[(.map (some x1))] 164 (0, 0))], R] := hX243.of_all1
              refine s_nil ?_
              refine t_norm (hK238 _ _ ?_)
              refine wp_seq_k fun K246 hK246 => ?_
              refine c_region ?_
              refine s_op (o_assign (v := (.int .i64 0)) rfl ?_)
              refine s_nil ?_
              refine t_norm (hK246 _ _ ?_)
              refine wp_ret ?_
              refine b_ret (t_ret (c_ret1 Try.results39  (v := (.int .i64 0)) rfl ?_))
              obtain ⟨sg247, hd248, hH249⟩ := DirHole.close hh46 hd242 ((hH244.front 2 rfl).front 1 rfl)
              have hd248 : DirAt S EntAt x1 sg247 (putB v.keys k (⟨holdS v42.hold (Plc.mk k wr o), v42.line⟩ : Ent)) := hd248
              have hn1_ : ¬ (0 ≤ atS v42.hold o ∧ (((v42.hold[(atS v42.hold o).toNat]?).map (·.wr)).getD false = true ∨ wr = false)) := fun g_ => h163 g_.1
              have hae_ : askE v42 ⟨k, wr, o⟩ = ((⟨holdS v42.hold ⟨k, wr, o⟩, v42.line⟩ : Ent), 0) := by rw [askE, if_neg hn1_, if_pos ⟨h236, .inr (List.eq_nil_of_length_eq_zero (by omega))⟩]
              have hak_ := ask_state h11 (by simpa using h29) (Eq.trans (by rw [ent_some hS40]) hae_)
              have q250 : (askS v.keys o k wr).2 = 0 := by rw [hak_]
              have hH251 : Has E w245 [([Hp.one tb (.cells #[(.map (some x1))] 164 (0, 0))] ++ sg247), [Hp.one b145 (.cells #[(S k), (.bool wr), (.int .i64 o)] 170 (0, 0))], [Hp.one b23 (.cells #[(S (((waitsS v.keys o).map (·.key)).getD [])), (.bool (((waitsS v.keys o).map (·.wr)).getD false))] 74 (0, 0))], [Hp.one b6 (.cells #[(S k), (.bool wr)] 74 (0, 0))], R] := Has.cl2 (hH249.front 4 rfl)
              have hd252 : TbAt tb ([Hp.one tb (.cells #[(.map (some x1))] 164 (0, 0))] ++ sg247) (⟨(putB v.keys k (⟨holdS v42.hold (Plc.mk k wr o), v42.line⟩ : Ent))⟩ : TabS) := TbAt.mk hd248
              have q253 : (⟨(askS v.keys o k wr).1⟩ : TabS) = (⟨(putB v.keys k (⟨holdS v42.hold (Plc.mk k wr o), v42.line⟩ : Ent))⟩ : TabS) := by rw [hak_]
              have hH254 : Has E w245 [([Hp.one tb (.cells #[(.map (some x1))] 164 (0, 0))] ++ sg247), R] := ((hH251.front 4 rfl).front 1 rfl).first 2 rfl
              exact ⟨_, by rw [q250], (by rw [q253]; exact hd252), hH254⟩
            · -- not: ((v42.line.length : Nat) : Int) = 0
              refine wp_skip ?_
              refine b_norm ?_
              refine t_norm (hK161 _ _ ?_)
              refine wp_seq_k fun K255 hK255 => ?_
              refine c_region ?_
              refine s_op (o_move (v := (.pointer (some ⟨b41, 0, none⟩))) rfl ?_)
              refine s_op (o_loadN (cs := [(S k), (.bool wr), (.int .i64 o)]) Try.underlying170 rfl ti170 rfl hH234 (seg_sub 3 rfl) (CellsAt.one rfl) ?_)
              have hH256 : Has E w235 [([Hp.one b41 (.cells #[x151, x152] 168 (0, 0))] ++ (s153 ++ s154)), [Hp.one b145 (.cells #[(S k), (.bool wr), (.int .i64 o)] 170 (0, 0))], sr44, [Hp.one b23 (.cells #[(S (((waitsS v.keys o).map (·.key)).getD [])), (.bool (((waitsS v.keys o).map (·.wr)).getD false))] 74 (0, 0))], [Hp.one b6 (.cells #[(S k), (.bool wr)] 74 (0, 0))], [Hp.one tb (.cells #[(.map (some x1))] 164 (0, 0))], R] := Has.cl3 (((hH234.front 2 rfl).front 2 rfl).front 2 rfl)
              have hd257 : EntAt b41 ([Hp.one b41 (.cells #[x151, x152] 168 (0, 0))] ++ (s153 ++ s154)) v42 := EntAt.mk f155 f156
              refine s_op (o_callf (vs := #[(.pointer (some ⟨b41, 0, none⟩)), (.agg #[(S k), (.bool wr), (.int .i64 o)])]) ca93 rfl (args2 rfl rfl) (wait_c (v := v42) (p := (Plc.mk k wr o)) hH256.all1 hd257 (by first | omega | (simp only []; omega) | (simp; done) | (simp; omega))) ?_)
              rintro _ w262 ⟨sg258, rfl, hd259, hX260⟩
              refine ⟨_, rfl, ?_⟩
              have hH261 : Has E w262 [sg258, [Hp.one b145 (.cells #[(S k), (.bool wr), (.int .i64 o)] 170 (0, 0))], sr44, [Hp.one b23 (.cells #[(S (((waitsS v.keys o).map (·.key)).getD [])), (.bool (((waitsS v.keys o).map (·.wr)).getD false))] 74 (0, 0))], [Hp.one b6 (.cells #[(S k), (.bool wr)] 74 (0, 0))], [Hp.one tb (.cells #[(.map (some x1))] 164 (0, 0))], R] := hX260.of_all1
              refine s_nil ?_
              refine t_norm (hK255 _ _ ?_)
              refine wp_seq_k fun K263 hK263 => ?_
              refine c_region ?_
              refine s_op (o_assign (v := (.int .i64 10)) rfl ?_)
              refine s_nil ?_
              refine t_norm (hK263 _ _ ?_)
              refine wp_ret ?_
              refine c_ret1 Try.results39  (v := (.int .i64 10)) rfl ?_
              obtain ⟨sg264, hd265, hH266⟩ := DirHole.close hh46 hd259 ((hH261.front 2 rfl).front 1 rfl)
              have hd265 : DirAt S EntAt x1 sg264 (putB v.keys k (⟨v42.hold, waitS v42.hold v42.line (Plc.mk k wr o)⟩ : Ent)) := hd265
              have hn1_ : ¬ (0 ≤ atS v42.hold o ∧ (((v42.hold[(atS v42.hold o).toNat]?).map (·.wr)).getD false = true ∨ wr = false)) := fun g_ => h163 g_.1
              have hae_ : askE v42 ⟨k, wr, o⟩ = ((⟨v42.hold, waitS v42.hold v42.line ⟨k, wr, o⟩⟩ : Ent), 10) := by rw [askE, if_neg hn1_, if_neg (fun g_ => g_.2.elim h163 (fun g_ => h237 (by rw [g_]; rfl)))]
              have hak_ := ask_state h11 (by simpa using h29) (Eq.trans (by rw [ent_some hS40]) hae_)
              have q267 : (askS v.keys o k wr).2 = 10 := by rw [hak_]
              have hH268 : Has E w262 [([Hp.one tb (.cells #[(.map (some x1))] 164 (0, 0))] ++ sg264), [Hp.one b145 (.cells #[(S k), (.bool wr), (.int .i64 o)] 170 (0, 0))], [Hp.one b23 (.cells #[(S (((waitsS v.keys o).map (·.key)).getD [])), (.bool (((waitsS v.keys o).map (·.wr)).getD false))] 74 (0, 0))], [Hp.one b6 (.cells #[(S k), (.bool wr)] 74 (0, 0))], R] := Has.cl2 (hH266.front 4 rfl)
              have hd269 : TbAt tb ([Hp.one tb (.cells #[(.map (some x1))] 164 (0, 0))] ++ sg264) (⟨(putB v.keys k (⟨v42.hold, waitS v42.hold v42.line (Plc.mk k wr o)⟩ : Ent))⟩ : TabS) := TbAt.mk hd265
              have q270 : (⟨(askS v.keys o k wr).1⟩ : TabS) = (⟨(putB v.keys k (⟨v42.hold, waitS v42.hold v42.line (Plc.mk k wr o)⟩ : Ent))⟩ : TabS) := by rw [hak_]
              have hH271 : Has E w262 [([Hp.one tb (.cells #[(.map (some x1))] 164 (0, 0))] ++ sg264), R] := ((hH268.front 4 rfl).front 1 rfl).first 2 rfl
              exact ⟨_, by rw [q267], (by rw [q270]; exact hd269), hH271⟩
          · -- not: freeS v42.hold (Plc.mk k wr o)
            refine s_off (b' := false) 75 rfl (congrArg Value.bool h236) rfl ?_
            refine s_off (b' := false) 75 rfl (congrArg Value.bool h236) rfl ?_
            refine s_off (b' := false) 75 rfl (congrArg Value.bool h236) rfl ?_
            refine s_offu 78 rfl rfl ?_
            refine s_offu 78 rfl rfl ?_
            refine s_offu 78 rfl rfl ?_
            refine s_offu 78 rfl rfl ?_
            refine s_offu 78 rfl rfl ?_
            refine s_offu 78 rfl rfl ?_
            refine s_off (b' := false) 75 rfl (congrArg Value.bool h236) rfl ?_
            refine s_op (o_pick_f (u := (.bool false)) ((rfl : _ = _).trans (congrArg Value.bool h236)) rfl ?_)
            refine s_op (o_assign (v := (.bool false)) rfl ?_)
            refine s_nil ?_
            refine t_norm (hK232 _ _ ?_)
            refine c_false rfl rfl ?_
            refine wp_skip ?_
            refine b_norm ?_
            refine t_norm (hK161 _ _ ?_)
            refine wp_seq_k fun K272 hK272 => ?_
            refine c_region ?_
            refine s_op (o_move (v := (.pointer (some ⟨b41, 0, none⟩))) rfl ?_)
            refine s_op (o_loadN (cs := [(S k), (.bool wr), (.int .i64 o)]) Try.underlying170 rfl ti170 rfl hH234 (seg_sub 3 rfl) (CellsAt.one rfl) ?_)
            have hH273 : Has E w235 [([Hp.one b41 (.cells #[x151, x152] 168 (0, 0))] ++ (s153 ++ s154)), [Hp.one b145 (.cells #[(S k), (.bool wr), (.int .i64 o)] 170 (0, 0))], sr44, [Hp.one b23 (.cells #[(S (((waitsS v.keys o).map (·.key)).getD [])), (.bool (((waitsS v.keys o).map (·.wr)).getD false))] 74 (0, 0))], [Hp.one b6 (.cells #[(S k), (.bool wr)] 74 (0, 0))], [Hp.one tb (.cells #[(.map (some x1))] 164 (0, 0))], R] := Has.cl3 (((hH234.front 2 rfl).front 2 rfl).front 2 rfl)
            have hd274 : EntAt b41 ([Hp.one b41 (.cells #[x151, x152] 168 (0, 0))] ++ (s153 ++ s154)) v42 := EntAt.mk f155 f156
            refine s_op (o_callf (vs := #[(.pointer (some ⟨b41, 0, none⟩)), (.agg #[(S k), (.bool wr), (.int .i64 o)])]) ca93 rfl (args2 rfl rfl) (wait_c (v := v42) (p := (Plc.mk k wr o)) hH273.all1 hd274 (by first | omega | (simp only []; omega) | (simp; done) | (simp; omega))) ?_)
            rintro _ w279 ⟨sg275, rfl, hd276, hX277⟩
            refine ⟨_, rfl, ?_⟩
            have hH278 : Has E w279 [sg275, [Hp.one b145 (.cells #[(S k), (.bool wr), (.int .i64 o)] 170 (0, 0))], sr44, [Hp.one b23 (.cells #[(S (((waitsS v.keys o).map (·.key)).getD [])), (.bool (((waitsS v.keys o).map (·.wr)).getD false))] 74 (0, 0))], [Hp.one b6 (.cells #[(S k), (.bool wr)] 74 (0, 0))], [Hp.one tb (.cells #[(.map (some x1))] 164 (0, 0))], R] := hX277.of_all1
            refine s_nil ?_
            refine t_norm (hK272 _ _ ?_)
            refine wp_seq_k fun K280 hK280 => ?_
            refine c_region ?_
            refine s_op (o_assign (v := (.int .i64 10)) rfl ?_)
            refine s_nil ?_
            refine t_norm (hK280 _ _ ?_)
            refine wp_ret ?_
            refine c_ret1 Try.results39  (v := (.int .i64 10)) rfl ?_
            obtain ⟨sg281, hd282, hH283⟩ := DirHole.close hh46 hd276 ((hH278.front 2 rfl).front 1 rfl)
            have hd282 : DirAt S EntAt x1 sg281 (putB v.keys k (⟨v42.hold, waitS v42.hold v42.line (Plc.mk k wr o)⟩ : Ent)) := hd282
            have hn1_ : ¬ (0 ≤ atS v42.hold o ∧ (((v42.hold[(atS v42.hold o).toNat]?).map (·.wr)).getD false = true ∨ wr = false)) := fun g_ => h163 g_.1
            have hae_ : askE v42 ⟨k, wr, o⟩ = ((⟨v42.hold, waitS v42.hold v42.line ⟨k, wr, o⟩⟩ : Ent), 10) := by rw [askE, if_neg hn1_, if_neg (fun g_ => by rw [h236] at g_; exact absurd g_.1 (by decide))]
            have hak_ := ask_state h11 (by simpa using h29) (Eq.trans (by rw [ent_some hS40]) hae_)
            have q284 : (askS v.keys o k wr).2 = 10 := by rw [hak_]
            have hH285 : Has E w279 [([Hp.one tb (.cells #[(.map (some x1))] 164 (0, 0))] ++ sg281), [Hp.one b145 (.cells #[(S k), (.bool wr), (.int .i64 o)] 170 (0, 0))], [Hp.one b23 (.cells #[(S (((waitsS v.keys o).map (·.key)).getD [])), (.bool (((waitsS v.keys o).map (·.wr)).getD false))] 74 (0, 0))], [Hp.one b6 (.cells #[(S k), (.bool wr)] 74 (0, 0))], R] := Has.cl2 (hH283.front 4 rfl)
            have hd286 : TbAt tb ([Hp.one tb (.cells #[(.map (some x1))] 164 (0, 0))] ++ sg281) (⟨(putB v.keys k (⟨v42.hold, waitS v42.hold v42.line (Plc.mk k wr o)⟩ : Ent))⟩ : TabS) := TbAt.mk hd282
            have q287 : (⟨(askS v.keys o k wr).1⟩ : TabS) = (⟨(putB v.keys k (⟨v42.hold, waitS v42.hold v42.line (Plc.mk k wr o)⟩ : Ent))⟩ : TabS) := by rw [hak_]
            have hH288 : Has E w279 [([Hp.one tb (.cells #[(.map (some x1))] 164 (0, 0))] ++ sg281), R] := ((hH285.front 4 rfl).front 1 rfl).first 2 rfl
            exact ⟨_, by rw [q284], (by rw [q287]; exact hd286), hH288⟩
set_option maxHeartbeats 4000000 in
theorem quit_c {E w : World} {R : List Hp} {tb : Nat} {sg_tb : List Hp} {v : TabS} {o : Int}  (hH : Has E w [sg_tb, R]) (h_tb : TbAt tb sg_tb v) (hkl : ∀ p_ ∈ v.keys, p_.1.length ≤ 1000) (hkn : v.keys.length ≤ 1000) (hsz : szT v.keys) :
    Calls Try.prog 40 #[(.pointer (some ⟨tb, 0, none⟩)), (.int .i64 o)] w fun e w' => ∃ (v1' : Value) (s2' : List Hp) (sg_tb' : List Hp), e = .returned v1' ∧ (Own 3 1 v1' ((leaveS false [o] v.keys).2).length (((leaveS false [o] v.keys).2).map iV) s2') ∧ (TbAt tb sg_tb' (⟨(leaveS false [o] v.keys).1⟩ : TabS)) ∧ Has E w' [s2', sg_tb', R] := by
  obtain ⟨x1, s2, rfl, f3⟩ := h_tb
  have hH4 : Has E w [[Hp.one tb (.cells #[(.map (some x1))] 164 (0, 0))], s2, R] := Has.op2 hH
  refine c_enter (args := [(.pointer (some ⟨tb, 0, none⟩)), (.int .i64 o)]) Try.func40 rfl Try.ntmps40 (by simp) ?_
  refine wp_seq_k fun K5 hK5 => ?_
  refine c_region ?_
  refine s_op (o_assign (v := (.slice none 0 0)) rfl ?_)
  refine s_nil ?_
  refine t_norm (hK5 _ _ ?_)
  refine wp_seq_k fun K6 hK6 => ?_
  refine c_region ?_
  refine s_op (o_move (v := (.pointer (some ⟨tb, 0, none⟩))) rfl ?_)
  refine s_op (o_move (v := (.int .i64 o)) rfl ?_)
  refine s_op (o_buildSlice (ps := #[(0, (.int .i64 o))]) (cells := #[(.int .i64 o)]) Try.underlying54 ti3 (by decide) (parts1 rfl) (by kernel_rfl) hH4 fun b7 w8 hH9 => ?_)
  have hH10 : Has E w8 [([Hp.one tb (.cells #[(.map (some x1))] 164 (0, 0))] ++ s2), [Hp.one b7 (.cells #[(.int .i64 o)] 3 (0, 0))], R] := Has.cl2 ((hH9.front 2 rfl).front 2 rfl)
  have hd11 : TbAt tb ([Hp.one tb (.cells #[(.map (some x1))] 164 (0, 0))] ++ s2) v := TbAt.mk f3
  refine s_op (o_callf (vs := #[(.pointer (some ⟨tb, 0, none⟩)), (.bool false), (.slice (some ⟨b7, 0, none⟩) 1 1)]) ca94 rfl (args3 rfl rfl rfl) (leave_c (v := v) (all := false) (ow := [o]) hH10.all1 hd11 ((sl_lit (f := iV) (l := [o]) rfl rfl (by simp)).mono (seg_sub 0 rfl)) (by first | omega | (simp only []; omega) | (simp; done) | (simp; omega)) (by first | omega | (simp only []; omega) | (simp; done) | (simp; omega)) (by first | omega | (simp only []; omega) | (simp; done) | (simp; omega))) ?_)
  rintro _ w19 ⟨v12, s13, sg15, rfl, ho14, hd16, hX17⟩
  refine ⟨_, rfl, ?_⟩
  have hH18 : Has E w19 [s13, sg15, [Hp.one b7 (.cells #[(.int .i64 o)] 3 (0, 0))], R] := hX17.of_all2
  refine s_op (o_assign (v := v12) rfl ?_)
  refine s_nil ?_
  refine t_norm (hK6 _ _ ?_)
  refine wp_ret ?_
  refine c_ret1 Try.results40  (v := v12) rfl ?_
  have q20 : (leaveS false [o] v.keys).2 = ((leaveS false [o] v.keys).2) := by rfl
  have hH21 : Has E w19 [s13, sg15, R] := (((hH18.front 3 rfl).front 2 rfl).front 2 rfl).first 3 rfl
  exact ⟨_, _, _, rfl, (by rw [q20]; exact ho14), hd16, hH21⟩
set_option maxHeartbeats 4000000 in
theorem free_t {E w : World} {R : List Hp} {tb : Nat} {sg_tb : List Hp} {v : TabS} {v_ow : Value} {ow : List Int}  (hH : Has E w [sg_tb, R]) (h_tb : TbAt tb sg_tb v) (h_ow : Sl R 1 v_ow ow.length (ow.map iV)) (hkl : ∀ p_ ∈ v.keys, p_.1.length ≤ 1000) (hkn : v.keys.length ≤ 1000) (hsz : szT v.keys) :
    Calls Try.prog 41 #[(.pointer (some ⟨tb, 0, none⟩)), v_ow] w fun e w' => ∃ (v1' : Value) (s2' : List Hp) (sg_tb' : List Hp), e = .returned v1' ∧ (Own 3 1 v1' ((leaveS true ow v.keys).2).length (((leaveS true ow v.keys).2).map iV) s2') ∧ (TbAt tb sg_tb' (⟨(leaveS true ow v.keys).1⟩ : TabS)) ∧ Has E w' [s2', sg_tb', R] := by
  obtain ⟨x1, s2, rfl, f3⟩ := h_tb
  have hH4 : Has E w [[Hp.one tb (.cells #[(.map (some x1))] 164 (0, 0))], s2, R] := Has.op2 hH
  refine c_enter (args := [(.pointer (some ⟨tb, 0, none⟩)), v_ow]) Try.func41 rfl Try.ntmps41 (by simp) ?_
  refine wp_seq_k fun K5 hK5 => ?_
  refine c_region ?_
  refine s_op (o_assign (v := (.slice none 0 0)) rfl ?_)
  refine s_nil ?_
  refine t_norm (hK5 _ _ ?_)
  refine wp_seq_k fun K6 hK6 => ?_
  refine c_region ?_
  refine s_op (o_move (v := (.pointer (some ⟨tb, 0, none⟩))) rfl ?_)
  refine s_op (o_move (v := v_ow) rfl ?_)
  have hH7 : Has E w [([Hp.one tb (.cells #[(.map (some x1))] 164 (0, 0))] ++ s2), R] := Has.cl2 ((hH4.front 1 rfl).front 1 rfl)
  have hd8 : TbAt tb ([Hp.one tb (.cells #[(.map (some x1))] 164 (0, 0))] ++ s2) v := TbAt.mk f3
  refine s_op (o_callf (vs := #[(.pointer (some ⟨tb, 0, none⟩)), (.bool true), v_ow]) ca94 rfl (args3 rfl rfl rfl) (leave_c (v := v) (all := true) (ow := ow) hH7.all1 hd8 (h_ow.mono (seg_sub 0 rfl)) (by first | omega | (simp only []; omega) | (simp; done) | (simp; omega)) (by first | omega | (simp only []; omega) | (simp; done) | (simp; omega)) (by first | omega | (simp only []; omega) | (simp; done) | (simp; omega))) ?_)
  rintro _ w16 ⟨v9, s10, sg12, rfl, ho11, hd13, hX14⟩
  refine ⟨_, rfl, ?_⟩
  have hH15 : Has E w16 [s10, sg12, R] := hX14.of_all2
  refine s_op (o_assign (v := v9) rfl ?_)
  refine s_nil ?_
  refine t_norm (hK6 _ _ ?_)
  refine wp_ret ?_
  refine c_ret1 Try.results41  (v := v9) rfl ?_
  have q17 : (leaveS true ow v.keys).2 = ((leaveS true ow v.keys).2) := by rfl
  exact ⟨_, _, _, rfl, (by rw [q17]; exact ho11), hd13, hH15⟩
end Go.Q
