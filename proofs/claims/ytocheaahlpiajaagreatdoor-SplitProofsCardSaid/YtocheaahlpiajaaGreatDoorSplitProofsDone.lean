/- SplitProofs: for every input the law answers true and leaves its arguments as they were. -/
import Derived.Test.YtocheaahlpiajaaGreatDoorSplitProofsS
import Derived.Test.YtocheaahlpiajaaGreatDoorRows
import Derived.Test.YtocheaahlpiajaaGreatDoorTie
import Derived.Test.YtocheaahlpiajaaGreatDoorCards
import Derived.LaidMore
import Derived.LaidLaws
import Derived.Stop.Joined
import Derived.Stop.LaidErr
import Derived.Lib.LaidTab
import Derived.MakeChecks
import Derived.LaidHandle
import Derived.SevenTiedAt
set_option linter.unusedVariables false
set_option linter.unusedSimpArgs false
namespace Go.Proofs.YtocheaahlpiajaaGreatDoor
open Go Go.Sx Go.ChangeShapes Go.WideShapes Go.ChangeAt Go.RowKit
theorem own_ : ownKnob Tryz.prog.godebug = none := by kernel_rfl
theorem laidOut_ : laidOutB Tryz.prog = true := by kernel_rfl

theorem door_met (os : Os) (args : Array Value) : laidMetH Tryz.prog Rows.splitProofsRow.laid ((World.doorLaid Tryz.prog 400 os).forCall (fun _ _ => 0) ⟨#[], args, []⟩).memory :=
  laidMetH_of_parts3 (fuel := 8) (laidMet_of_run' 8 (by kernel_rfl) (by kernel_rfl)) (by kernel_rfl) (by kernel_rfl)
theorem tab_laid {W : World} (h : laidMetH Tryz.prog Rows.splitProofsRow.laid W) : Tab W := by
  rw [MakeChecks.laidMetH_plain _ _ _ (by kernel_rfl)] at h
  have h1 : laidMet Tryz.prog [("internal/strconv.uint64pow10", Rows.laid_internal_strconv_uint64pow10)] W := h.tail.tail
  exact Lib.tabIs_of_head (g := 2) (t := 410) (e := 27) (n := 20) (by kernel_rfl) (by kernel_rfl) Tryz.underlying410 Tryz.underlying27 (by kernel_rfl) (by kernel_rfl) h1

set_option maxRecDepth 100000 in
theorem splitProofs_lifted (os : Os) (started : os.Started) (H : Type) (enc : TypeId × Value -> H) :
    ReturnsInHanded {} Tryz.checked os 4 .any (fun w args => (Rows.splitProofsSpec.pre enc Tryz.prog Tryz.f4 Rows.splitProofsRow.domain false w args /\ laidMetH Tryz.prog Rows.splitProofsRow.laid w) /\ sizedMet enc Tryz.prog Tryz.f4 (OpenSpec.ofChange Rows.splitProofsSpec) false w args) (Rows.splitProofsSpec.post enc Tryz.prog Tryz.f4 false true false false) := by
  refine returnsInHanded_of_change_and (C := Tryz.checked) (X := fun w _ => laidMetH Tryz.prog Rows.splitProofsRow.laid w) (fun _ _ _ hh h => h.of_heap hh) own_ started (by kernel_rfl) Tryz.func4
    (ChangeSpec.witness_shaped (enc := enc) (C := Tryz.checked) (os := os) (X := fun w _ => laidMetH Tryz.prog Rows.splitProofsRow.laid w) false (World.doorLaid Tryz.prog 400 os) #[.slice none 0 0, .int .u64 0, .agg #[.int .u8 0, .int .u8 0, .int .u8 0, .int .u8 0, .int .u8 0, .int .u8 0, .int .u8 0, .int .u8 0, .int .u8 0, .int .u8 0, .int .u8 0, .int .u8 0, .int .u8 0, .int .u8 0, .int .u8 0, .int .u8 0, .int .u8 0, .int .u8 0, .int .u8 0, .int .u8 0, .int .u8 0, .int .u8 0, .int .u8 0, .int .u8 0, .int .u8 0, .int .u8 0, .int .u8 0, .int .u8 0, .int .u8 0, .int .u8 0, .int .u8 0, .int .u8 0]] 8 rfl (World.shaped_of_RefB (by kernel_rfl) (by kernel_rfl)) (by kernel_rfl) (by kernel_rfl) (by kernel_rfl) (door_met os _)) ?_
  intro W base args ds gs before hval0 hW _ _ hL0 _
  have hTab : Tab W := tab_laid hL0
  have hval : ∀ (j : Nat) t v, Tryz.f4.params[j]? = some t -> args[j]? = some v -> Value.okWide Tryz.prog W .any base t v := hval0
  have hW' := hW
  obtain ⟨p, q, hA0, hV, rfl, hfz, hnd⟩ := hW
  have hA : DataW.TrodAll enc Tryz.prog W 0 (fun _ => true) true Tryz.f4.params.toList args.toList ds p := hA0
  rw [Tryz.params4] at hA hval
  obtain ⟨v0, vs0, d0, ds0, p0, q0, hargs, rfl, rfl, h0, r0⟩ := trodAll_cons hA
  obtain ⟨v1, vs1, d1, ds1, p1, q1, rfl, rfl, rfl, h1, r1⟩ := trodAll_cons r0
  obtain ⟨v2, vs2, d2, ds2, p2, q2, rfl, rfl, rfl, h2, r2⟩ := trodAll_cons r1
  obtain ⟨rfl, rfl, rfl⟩ := trodAll_nil r2
  obtain rfl : args = #[v0, v1, v2] := by cases args; simp_all
  obtain ⟨rfl, rfl⟩ := trodVars_none hV
  have k0 := h0
  have lt0 : ∀ x ∈ p0, x.block < W.heap.size := by obtain ⟨m, hm⟩ := k0; exact DataW.trod_lt m _ _ _ hm
  have k1 := h1
  have lt1 : ∀ x ∈ p1, x.block < W.heap.size := by obtain ⟨m, hm⟩ := k1; exact DataW.trod_lt m _ _ _ hm
  have k2 := h2
  have lt2 : ∀ x ∈ p2, x.block < W.heap.size := by obtain ⟨m, hm⟩ := k2; exact DataW.trod_lt m _ _ _ hm
  obtain ⟨A0, n0, c0, x0, rfl, s0, b0, m0⟩ := open_sb Tryz.underlying26 Tryz.underlying5 (by kernel_rfl) (hval 0 26 v0 rfl rfl) h0
  obtain ⟨x1, rfl, g1⟩ := open_u64 Tryz.underlying28 (hval 1 28 v1 rfl rfl) h1
  obtain ⟨x2, rfl, s2⟩ := open_bytes Tryz.underlying30 Tryz.underlying5 (by kernel_rfl) (by kernel_rfl) (hval 2 30 v2 rfl rfl) h2
  clear hA0 hval0
  refine (SplitProofs_ok x1 s2 W hTab (sb_vec39 s0) (Nat.le_trans b0 m0)).mono fun e W' ⟨he, bel⟩ => ?_
  subst he
  exact ⟨_, rfl, _, _, _, [], _, [], hW', trodAll_mk1 (shut_bool Tryz.underlying4 _), (trodAll_cons_mk (Below.trod laidOut_ (by kernel_rfl) (of_decide_eq_true (by kernel_rfl)) k0 bel lt0) (trodAll_cons_mk (Below.trod laidOut_ (by kernel_rfl) (of_decide_eq_true (by kernel_rfl)) k1 bel lt1) (trodAll_cons_mk (Below.trod laidOut_ (by kernel_rfl) (of_decide_eq_true (by kernel_rfl)) k2 bel lt2) trodAll_mk0))), rfl, bel.frame _, fun h => by cases h⟩

set_option maxRecDepth 100000 in
theorem splitProofs_jf0 : (Rows.splitProofsRow.wf (OpenSpec.ofChange Rows.splitProofsSpec)) = true := by kernel_rfl
set_option maxRecDepth 100000 in
theorem splitProofs_jf1 : (laidOutB Tryz.prog) = true := by kernel_rfl
set_option maxRecDepth 100000 in
theorem splitProofs_jf2 : (mapsRowed Tryz.prog) = true := by kernel_rfl
set_option maxRecDepth 100000 in
theorem splitProofs_jf3 : (Tryz.f4.params.all (Tryz.prog.readableRec ·)) = true := by kernel_rfl
set_option maxRecDepth 100000 in
theorem splitProofs_jf4 : (namedTie Tryz.prog Rows.splitProofsRow.named Rows.splitProofsSpec.vars) = true := by kernel_rfl
set_option maxRecDepth 100000 in
theorem splitProofs_jf5 : ((Rows.splitProofsRow.stops == [])) = true := by kernel_rfl
set_option maxRecDepth 100000 in
theorem splitProofs_jf6 : ((Tryz.prog.stops == [])) = true := by kernel_rfl
set_option maxRecDepth 100000 in
theorem splitProofs_jf7 : ((Rows.splitProofsRow.knobs == [])) = true := by kernel_rfl
set_option maxRecDepth 100000 in
theorem splitProofs_jf8 : ((Tryz.prog.stopKnobs == [])) = true := by kernel_rfl
set_option maxRecDepth 100000 in
theorem splitProofs_jf9 : ((Rows.splitProofsRow.inPlace == Tryz.prog.inPlace 4)) = true := by kernel_rfl
set_option maxRecDepth 100000 in
theorem splitProofs_jf10 : ((Rows.splitProofsRow.unfollowed == Tryz.prog.unfollowed 4)) = true := by kernel_rfl
set_option maxRecDepth 100000 in
theorem splitProofs_jf11 : ((Rows.splitProofsRow.recurses == Tryz.prog.recurses 4)) = true := by kernel_rfl
set_option maxRecDepth 100000 in
theorem splitProofs_jf12 : ((Rows.splitProofsRow.named == Tryz.prog.varsNamed 4)) = true := by kernel_rfl
set_option maxRecDepth 100000 in
theorem splitProofs_jf13 : ((Rows.splitProofsRow.maps == (Tryz.f4.params.toList ++ Rows.splitProofsSpec.plain.varTypes Tryz.prog).any (Tryz.prog.mapsRec ·))) = true := by kernel_rfl
set_option maxRecDepth 100000 in
theorem splitProofs_jf14 : ((Rows.splitProofsRow.ifaces == (Tryz.f4.params.toList ++ Rows.splitProofsSpec.plain.varTypes Tryz.prog).any (Tryz.prog.ifacesRec ·))) = true := by kernel_rfl
set_option maxRecDepth 100000 in
theorem splitProofs_jf15 : ((Rows.splitProofsRow.mapsOut == Tryz.prog.mapsAmong Tryz.f4.resultTypes.toList)) = true := by kernel_rfl
set_option maxRecDepth 100000 in
theorem splitProofs_jf16 : ((Rows.splitProofsRow.loops == (Tryz.f4.params.toList ++ Rows.splitProofsSpec.plain.varTypes Tryz.prog).any (Tryz.prog.loopsFrom ·))) = true := by kernel_rfl
set_option maxRecDepth 100000 in
theorem splitProofs_jf17 : ((Rows.splitProofsRow.wideKeys == (Tryz.f4.params.toList ++ Rows.splitProofsSpec.plain.varTypes Tryz.prog ++ Tryz.f4.resultTypes.toList).any (Tryz.prog.wideKeysFrom ·))) = true := by kernel_rfl
set_option maxRecDepth 100000 in
theorem splitProofs_jf18 : (Rows.splitProofsSpec.vars.all (Tryz.prog.varReadable ·)) = true := by kernel_rfl
set_option maxRecDepth 100000 in
theorem splitProofs_jf19 : (Tryz.f4.resultTypes.all (fun t => Tryz.prog.readableRec t && decide (t < Tryz.prog.types.size))) = true := by kernel_rfl
set_option maxRecDepth 100000 in
theorem splitProofs_jf20 : ((Rows.splitProofsRow.ifacesOut == Tryz.f4.resultTypes.toList.any (Tryz.prog.ifacesRec ·))) = true := by kernel_rfl
set_option maxRecDepth 100000 in
theorem splitProofs_jf21 : ((Rows.splitProofsRow.loopsOut == Tryz.f4.resultTypes.toList.any (Tryz.prog.loopsFrom ·))) = true := by kernel_rfl
set_option maxRecDepth 100000 in
theorem splitProofs_jf22 : ((Rows.splitProofsRow.plainKeys == Tryz.prog.plainKeys)) = true := by kernel_rfl
set_option maxRecDepth 100000 in
theorem splitProofs_jf23 : (Rows.splitProofsRow.shortTexts.isNone) = true := by kernel_rfl
set_option maxRecDepth 100000 in
theorem splitProofs_jf24 : (Tryz.prog.stopsHeard) = true := by kernel_rfl
set_option maxRecDepth 100000 in
theorem splitProofs_jf25 : (Tryz.prog.mayEnter) = true := by kernel_rfl
set_option maxRecDepth 100000 in
theorem splitProofs_jf26 : ((Rows.splitProofsRow.lifted == Tryz.prog.liftsFinal)) = true := by kernel_rfl
set_option maxRecDepth 100000 in
theorem splitProofs_jf27 : ((Tryz.prog.make == some Rows.splitProofsRow.make)) = true := by kernel_rfl
set_option maxRecDepth 100000 in
theorem splitProofs_jf28 : ((Rows.splitProofsRow.kinds == [])) = true := by kernel_rfl
set_option maxRecDepth 100000 in
theorem splitProofs_jf29 : ((Rows.splitProofsRow.pinned == Rows.splitProofsRow.pinnedBy)) = true := by kernel_rfl
set_option maxRecDepth 100000 in
theorem splitProofs_jf30 : ((Rows.splitProofsRow.veiled == (Tryz.f4.params.toList ++ Rows.splitProofsSpec.plain.varTypes Tryz.prog ++ Tryz.f4.resultTypes.toList).any (Tryz.prog.veiledRec ·))) = true := by kernel_rfl
set_option maxRecDepth 100000 in
theorem splitProofs_jf31 : (Rows.splitProofsRow.veiledFits Tryz.prog Tryz.f4.params.toList (Tryz.f4.params.toList ++ Rows.splitProofsSpec.plain.varTypes Tryz.prog ++ Tryz.f4.resultTypes.toList)) = true := by kernel_rfl
theorem both_yes {a b : Bool} (ha : a = true) (hb : b = true) : (a && b) = true := by rw [ha, hb]; rfl
set_option maxRecDepth 100000 in
theorem splitProofs_joined : joinedFacts Tryz.prog 4 Tryz.f4 Rows.splitProofsSpec Rows.splitProofsRow = true :=
  both_yes (both_yes (both_yes (both_yes (both_yes (both_yes (both_yes (both_yes (both_yes (both_yes (both_yes (both_yes (both_yes (both_yes (both_yes (both_yes (both_yes (both_yes (both_yes (both_yes (both_yes (both_yes (both_yes (both_yes (both_yes (both_yes (both_yes (both_yes (both_yes (both_yes (both_yes (splitProofs_jf0) splitProofs_jf1) splitProofs_jf2) splitProofs_jf3) splitProofs_jf4) splitProofs_jf5) splitProofs_jf6) splitProofs_jf7) splitProofs_jf8) splitProofs_jf9) splitProofs_jf10) splitProofs_jf11) splitProofs_jf12) splitProofs_jf13) splitProofs_jf14) splitProofs_jf15) splitProofs_jf16) splitProofs_jf17) splitProofs_jf18) splitProofs_jf19) splitProofs_jf20) splitProofs_jf21) splitProofs_jf22) splitProofs_jf23) splitProofs_jf24) splitProofs_jf25) splitProofs_jf26) splitProofs_jf27) (by rw [if_pos (show Rows.splitProofsRow.domain.isEmpty = true by kernel_rfl)]; exact splitProofs_jf28)) splitProofs_jf29) splitProofs_jf30) splitProofs_jf31
theorem splitProofs_named : Tryz.prog.funcNamed "corsned/corsnedlaw39.SplitProofs" = some 4 := by kernel_rfl
theorem splitProofs_over : Rows.splitProofsRow.holds Tryz.pinned (OpenSpec.ofChange Rows.splitProofsSpec) :=
  OpenClaim.holds_of_wide 4 Tryz.f4 rfl rfl rfl rfl rfl rfl rfl ⟨rfl, rfl, rfl, rfl, rfl⟩ rfl rfl rfl rfl rfl splitProofs_named Tryz.func4 splitProofs_joined
    (of_decide_eq_true (by kernel_rfl)) (by unfold Func.isWrapper; first | (rw [if_pos (by decide +kernel)]; kernel_rfl) | (rw [if_neg (by decide +kernel)]; exact ⟨rfl, rfl⟩))
    (fun os started H enc _ => splitProofs_lifted os started H enc)

theorem splitProofs_wft : Rows.splitProofsRow.wfByText (OpenSpec.ofChange Rows.splitProofsSpec) = true := by kernel_rfl
theorem splitProofs_looks : true = Tryz.prog.looks [] := by kernel_rfl
theorem splitProofs_goes : false = Rows.splitProofsRow.goesBy Tryz.prog := by kernel_rfl
theorem splitProofs_stand : ([26, 28, 30].all fun u => !Tryz.prog.wantsStandIn u) = true := by kernel_rfl
theorem SplitProofs_holds : Rows.SplitProofsCardSaid :=
  Claim7.holds_tied_plain_at .later [] [.data, .data, .data] true (true, "6ec460ec8289769ce1e62c1c633bcf91a38e308fb69381cf3cc8c6a621cb99e3") true
    splitProofs_over (fun _ h => by cases h) splitProofs_wft (fun _ h => by cases h) splitProofs_row_tie rfl ⟨rfl, rfl⟩ (by kernel_rfl) rfl
    (fun f fn hf hfn => by
      obtain rfl : f = 4 := Option.some.inj (splitProofs_named.symm.trans hf) |>.symm
      obtain rfl : fn = Tryz.f4 := (Option.some.inj (Tryz.func4.symm.trans hfn)).symm
      exact ⟨splitProofs_looks, fun j t ht => by
        rw [Tryz.params4] at ht
        have hm : t ∈ [26, 28, 30] := by simpa using Array.mem_of_getElem? ht
        have hall := splitProofs_stand
        exact (show Tryz.prog.wantsStandIn t = false by simpa using List.all_eq_true.1 hall t hm)⟩)
    splitProofs_goes
end Go.Proofs.YtocheaahlpiajaaGreatDoor

