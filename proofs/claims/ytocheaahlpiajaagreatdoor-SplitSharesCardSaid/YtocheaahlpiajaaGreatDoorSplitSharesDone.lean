/- SplitShares: for every input the law answers true and leaves its arguments as they were. -/
import Derived.Test.YtocheaahlpiajaaGreatDoorSplitSharesR
import Derived.Test.YtocheaahlpiajaaGreatDoorRows
import Derived.Test.YtocheaahlpiajaaGreatDoorTie
import Derived.Test.YtocheaahlpiajaaGreatDoorCards
import Derived.LaidMore
import Derived.LaidLaws
import Derived.Stop.Joined
import Derived.Stop.LaidErr
import Derived.Lib.LaidTab
import Derived.MakeChecks
import Derived.LaidHandle
import Derived.SevenTiedAt
set_option linter.unusedVariables false
set_option linter.unusedSimpArgs false
namespace Go.Proofs.YtocheaahlpiajaaGreatDoor
open Go Go.Sx Go.ChangeShapes Go.WideShapes Go.ChangeAt Go.RowKit
theorem own_ : ownKnob Tryz.prog.godebug = none := by kernel_rfl
theorem laidOut_ : laidOutB Tryz.prog = true := by kernel_rfl

theorem door_met (os : Os) (args : Array Value) : laidMetH Tryz.prog Rows.splitSharesRow.laid ((World.doorLaid Tryz.prog 400 os).forCall (fun _ _ => 0) ⟨#[], args, []⟩).memory :=
  laidMetH_of_parts3 (fuel := 8) (laidMet_of_run' 8 (by kernel_rfl) (by kernel_rfl)) (by kernel_rfl) (by kernel_rfl)
theorem tab_laid {W : World} (h : laidMetH Tryz.prog Rows.splitSharesRow.laid W) : Tab W := by
  rw [MakeChecks.laidMetH_plain _ _ _ (by kernel_rfl)] at h
  have h1 : laidMet Tryz.prog [("internal/strconv.uint64pow10", Rows.laid_internal_strconv_uint64pow10)] W := h.tail.tail
  exact Lib.tabIs_of_head (g := 2) (t := 410) (e := 27) (n := 20) (by kernel_rfl) (by kernel_rfl) Tryz.underlying410 Tryz.underlying27 (by kernel_rfl) (by kernel_rfl) h1

set_option maxRecDepth 100000 in
theorem splitShares_lifted (os : Os) (started : os.Started) (H : Type) (enc : TypeId × Value → H) :
    ReturnsInHanded {} Tryz.checked os 3 .any (fun w args => (Rows.splitSharesSpec.pre enc Tryz.prog Tryz.f3 Rows.splitSharesRow.domain false w args ∧ laidMetH Tryz.prog Rows.splitSharesRow.laid w) ∧ sizedMet enc Tryz.prog Tryz.f3 (OpenSpec.ofChange Rows.splitSharesSpec) false w args) (Rows.splitSharesSpec.post enc Tryz.prog Tryz.f3 false true false false) := by
  refine returnsInHanded_of_change_and (C := Tryz.checked) (X := fun w _ => laidMetH Tryz.prog Rows.splitSharesRow.laid w) (fun _ _ _ hh h => h.of_heap hh) own_ started (by kernel_rfl) Tryz.func3
    (ChangeSpec.witness_shaped (enc := enc) (C := Tryz.checked) (os := os) (X := fun w _ => laidMetH Tryz.prog Rows.splitSharesRow.laid w) false (World.doorLaid Tryz.prog 400 os) #[.int .i64 0, .int .i64 0] 8 rfl (World.shaped_of_RefB (by kernel_rfl) (by kernel_rfl)) (by kernel_rfl) (by kernel_rfl) (by kernel_rfl) (door_met os _)) ?_
  intro W base args ds gs before hval0 hW _ _ hL0 _
  have hTab : Tab W := tab_laid hL0
  have hval : ∀ (j : Nat) t v, Tryz.f3.params[j]? = some t → args[j]? = some v → Value.okWide Tryz.prog W .any base t v := hval0
  have hW' := hW
  obtain ⟨p, q, hA0, hV, rfl, hfz, hnd⟩ := hW
  have hA : DataW.TrodAll enc Tryz.prog W 0 (fun _ => true) true Tryz.f3.params.toList args.toList ds p := hA0
  rw [Tryz.params3] at hA hval
  obtain ⟨v0, vs0, d0, ds0, p0, q0, hargs, rfl, rfl, h0, r0⟩ := trodAll_cons hA
  obtain ⟨v1, vs1, d1, ds1, p1, q1, rfl, rfl, rfl, h1, r1⟩ := trodAll_cons r0
  obtain ⟨rfl, rfl, rfl⟩ := trodAll_nil r1
  obtain rfl : args = #[v0, v1] := by cases args; simp_all
  obtain ⟨rfl, rfl⟩ := trodVars_none hV
  have k0 := h0
  have lt0 : ∀ x ∈ p0, x.block < W.heap.size := by obtain ⟨m, hm⟩ := k0; exact DataW.trod_lt m _ _ _ hm
  have k1 := h1
  have lt1 : ∀ x ∈ p1, x.block < W.heap.size := by obtain ⟨m, hm⟩ := k1; exact DataW.trod_lt m _ _ _ hm
  obtain ⟨a0, rfl, rfl, rfl, s0⟩ := open_int Tryz.underlying3 (hval 0 3 v0 rfl rfl) h0
  obtain ⟨a1, rfl, rfl, rfl, s1⟩ := open_int Tryz.underlying3 (hval 1 3 v1 rfl rfl) h1
  clear hA0 hval0
  refine (SplitShares_ok a0 a1 W hTab (bounds_i64 s0) (bounds_i64 s1)).mono fun e W' ⟨he, bel⟩ => ?_
  subst he
  exact ⟨_, rfl, _, _, _, [], _, [], hW', trodAll_mk1 (shut_bool Tryz.underlying4 _), (trodAll_cons_mk (Below.trod laidOut_ (by kernel_rfl) (of_decide_eq_true (by kernel_rfl)) k0 bel lt0) (trodAll_cons_mk (Below.trod laidOut_ (by kernel_rfl) (of_decide_eq_true (by kernel_rfl)) k1 bel lt1) trodAll_mk0)), rfl, bel.frame _, fun h => by cases h⟩

set_option maxRecDepth 100000 in
theorem splitShares_jf0 : (Rows.splitSharesRow.wf (OpenSpec.ofChange Rows.splitSharesSpec)) = true := by kernel_rfl
set_option maxRecDepth 100000 in
theorem splitShares_jf1 : (laidOutB Tryz.prog) = true := by kernel_rfl
set_option maxRecDepth 100000 in
theorem splitShares_jf2 : (mapsRowed Tryz.prog) = true := by kernel_rfl
set_option maxRecDepth 100000 in
theorem splitShares_jf3 : (Tryz.f3.params.all (Tryz.prog.readableRec ·)) = true := by kernel_rfl
set_option maxRecDepth 100000 in
theorem splitShares_jf4 : (namedTie Tryz.prog Rows.splitSharesRow.named Rows.splitSharesSpec.vars) = true := by kernel_rfl
set_option maxRecDepth 100000 in
theorem splitShares_jf5 : ((Rows.splitSharesRow.stops == [])) = true := by kernel_rfl
set_option maxRecDepth 100000 in
theorem splitShares_jf6 : ((Tryz.prog.stops == [])) = true := by kernel_rfl
set_option maxRecDepth 100000 in
theorem splitShares_jf7 : ((Rows.splitSharesRow.knobs == [])) = true := by kernel_rfl
set_option maxRecDepth 100000 in
theorem splitShares_jf8 : ((Tryz.prog.stopKnobs == [])) = true := by kernel_rfl
set_option maxRecDepth 100000 in
theorem splitShares_jf9 : ((Rows.splitSharesRow.inPlace == Tryz.prog.inPlace 3)) = true := by kernel_rfl
set_option maxRecDepth 100000 in
theorem splitShares_jf10 : ((Rows.splitSharesRow.unfollowed == Tryz.prog.unfollowed 3)) = true := by kernel_rfl
set_option maxRecDepth 100000 in
theorem splitShares_jf11 : ((Rows.splitSharesRow.recurses == Tryz.prog.recurses 3)) = true := by kernel_rfl
set_option maxRecDepth 100000 in
theorem splitShares_jf12 : ((Rows.splitSharesRow.named == Tryz.prog.varsNamed 3)) = true := by kernel_rfl
set_option maxRecDepth 100000 in
theorem splitShares_jf13 : ((Rows.splitSharesRow.maps == (Tryz.f3.params.toList ++ Rows.splitSharesSpec.plain.varTypes Tryz.prog).any (Tryz.prog.mapsRec ·))) = true := by kernel_rfl
set_option maxRecDepth 100000 in
theorem splitShares_jf14 : ((Rows.splitSharesRow.ifaces == (Tryz.f3.params.toList ++ Rows.splitSharesSpec.plain.varTypes Tryz.prog).any (Tryz.prog.ifacesRec ·))) = true := by kernel_rfl
set_option maxRecDepth 100000 in
theorem splitShares_jf15 : ((Rows.splitSharesRow.mapsOut == Tryz.prog.mapsAmong Tryz.f3.resultTypes.toList)) = true := by kernel_rfl
set_option maxRecDepth 100000 in
theorem splitShares_jf16 : ((Rows.splitSharesRow.loops == (Tryz.f3.params.toList ++ Rows.splitSharesSpec.plain.varTypes Tryz.prog).any (Tryz.prog.loopsFrom ·))) = true := by kernel_rfl
set_option maxRecDepth 100000 in
theorem splitShares_jf17 : ((Rows.splitSharesRow.wideKeys == (Tryz.f3.params.toList ++ Rows.splitSharesSpec.plain.varTypes Tryz.prog ++ Tryz.f3.resultTypes.toList).any (Tryz.prog.wideKeysFrom ·))) = true := by kernel_rfl
set_option maxRecDepth 100000 in
theorem splitShares_jf18 : (Rows.splitSharesSpec.vars.all (Tryz.prog.varReadable ·)) = true := by kernel_rfl
set_option maxRecDepth 100000 in
theorem splitShares_jf19 : (Tryz.f3.resultTypes.all (fun t => Tryz.prog.readableRec t && decide (t < Tryz.prog.types.size))) = true := by kernel_rfl
set_option maxRecDepth 100000 in
theorem splitShares_jf20 : ((Rows.splitSharesRow.ifacesOut == Tryz.f3.resultTypes.toList.any (Tryz.prog.ifacesRec ·))) = true := by kernel_rfl
set_option maxRecDepth 100000 in
theorem splitShares_jf21 : ((Rows.splitSharesRow.loopsOut == Tryz.f3.resultTypes.toList.any (Tryz.prog.loopsFrom ·))) = true := by kernel_rfl
set_option maxRecDepth 100000 in
theorem splitShares_jf22 : ((Rows.splitSharesRow.plainKeys == Tryz.prog.plainKeys)) = true := by kernel_rfl
set_option maxRecDepth 100000 in
theorem splitShares_jf23 : (Rows.splitSharesRow.shortTexts.isNone) = true := by kernel_rfl
set_option maxRecDepth 100000 in
theorem splitShares_jf24 : (Tryz.prog.stopsHeard) = true := by kernel_rfl
set_option maxRecDepth 100000 in
theorem splitShares_jf25 : (Tryz.prog.mayEnter) = true := by kernel_rfl
set_option maxRecDepth 100000 in
theorem splitShares_jf26 : ((Rows.splitSharesRow.lifted == Tryz.prog.liftsFinal)) = true := by kernel_rfl
set_option maxRecDepth 100000 in
theorem splitShares_jf27 : ((Tryz.prog.make == some Rows.splitSharesRow.make)) = true := by kernel_rfl
set_option maxRecDepth 100000 in
theorem splitShares_jf28 : ((Rows.splitSharesRow.kinds == [])) = true := by kernel_rfl
set_option maxRecDepth 100000 in
theorem splitShares_jf29 : ((Rows.splitSharesRow.pinned == Rows.splitSharesRow.pinnedBy)) = true := by kernel_rfl
set_option maxRecDepth 100000 in
theorem splitShares_jf30 : ((Rows.splitSharesRow.veiled == (Tryz.f3.params.toList ++ Rows.splitSharesSpec.plain.varTypes Tryz.prog ++ Tryz.f3.resultTypes.toList).any (Tryz.prog.veiledRec ·))) = true := by kernel_rfl
set_option maxRecDepth 100000 in
theorem splitShares_jf31 : (Rows.splitSharesRow.veiledFits Tryz.prog Tryz.f3.params.toList (Tryz.f3.params.toList ++ Rows.splitSharesSpec.plain.varTypes Tryz.prog ++ Tryz.f3.resultTypes.toList)) = true := by kernel_rfl
theorem both_yes {a b : Bool} (ha : a = true) (hb : b = true) : (a && b) = true := by rw [ha, hb]; rfl
set_option maxRecDepth 100000 in
theorem splitShares_joined : joinedFacts Tryz.prog 3 Tryz.f3 Rows.splitSharesSpec Rows.splitSharesRow = true :=
  both_yes (both_yes (both_yes (both_yes (both_yes (both_yes (both_yes (both_yes (both_yes (both_yes (both_yes (both_yes (both_yes (both_yes (both_yes (both_yes (both_yes (both_yes (both_yes (both_yes (both_yes (both_yes (both_yes (both_yes (both_yes (both_yes (both_yes (both_yes (both_yes (both_yes (both_yes (splitShares_jf0) splitShares_jf1) splitShares_jf2) splitShares_jf3) splitShares_jf4) splitShares_jf5) splitShares_jf6) splitShares_jf7) splitShares_jf8) splitShares_jf9) splitShares_jf10) splitShares_jf11) splitShares_jf12) splitShares_jf13) splitShares_jf14) splitShares_jf15) splitShares_jf16) splitShares_jf17) splitShares_jf18) splitShares_jf19) splitShares_jf20) splitShares_jf21) splitShares_jf22) splitShares_jf23) splitShares_jf24) splitShares_jf25) splitShares_jf26) splitShares_jf27) (by rw [if_pos (show Rows.splitSharesRow.domain.isEmpty = true by kernel_rfl)]; exact splitShares_jf28)) splitShares_jf29) splitShares_jf30) splitShares_jf31
theorem splitShares_named : Tryz.prog.funcNamed "corsned/corsnedlaw39.SplitShares" = some 3 := by kernel_rfl
theorem splitShares_over : Rows.splitSharesRow.holds Tryz.pinned (OpenSpec.ofChange Rows.splitSharesSpec) :=
  OpenClaim.holds_of_wide 3 Tryz.f3 rfl rfl rfl rfl rfl rfl rfl ⟨rfl, rfl, rfl, rfl, rfl⟩ rfl rfl rfl rfl rfl splitShares_named Tryz.func3 splitShares_joined
    (of_decide_eq_true (by kernel_rfl)) (by unfold Func.isWrapper; first | (rw [if_pos (by decide +kernel)]; kernel_rfl) | (rw [if_neg (by decide +kernel)]; exact ⟨rfl, rfl⟩))
    (fun os started H enc _ => splitShares_lifted os started H enc)

theorem splitShares_wft : Rows.splitSharesRow.wfByText (OpenSpec.ofChange Rows.splitSharesSpec) = true := by kernel_rfl
theorem splitShares_looks : true = Tryz.prog.looks [] := by kernel_rfl
theorem splitShares_goes : false = Rows.splitSharesRow.goesBy Tryz.prog := by kernel_rfl
theorem splitShares_stand : ([3, 3].all fun u => !Tryz.prog.wantsStandIn u) = true := by kernel_rfl
theorem SplitShares_holds : Rows.SplitSharesCardSaid :=
  Claim7.holds_tied_plain_at .later [] [.data, .data, .data] true (true, "6ec460ec8289769ce1e62c1c633bcf91a38e308fb69381cf3cc8c6a621cb99e3") true
    splitShares_over (fun _ h => by cases h) splitShares_wft (fun _ h => by cases h) splitShares_row_tie rfl ⟨rfl, rfl⟩ (by kernel_rfl) rfl
    (fun f fn hf hfn => by
      obtain rfl : f = 3 := Option.some.inj (splitShares_named.symm.trans hf) |>.symm
      obtain rfl : fn = Tryz.f3 := (Option.some.inj (Tryz.func3.symm.trans hfn)).symm
      exact ⟨splitShares_looks, fun j t ht => by
        rw [Tryz.params3] at ht
        have hm : t ∈ [3, 3] := by simpa using Array.mem_of_getElem? ht
        have hall := splitShares_stand
        exact (show Tryz.prog.wantsStandIn t = false by simpa using List.all_eq_true.1 hall t hm)⟩)
    splitShares_goes
end Go.Proofs.YtocheaahlpiajaaGreatDoor

