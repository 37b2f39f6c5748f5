/- RouteSigned: for every input the law answers true and leaves its arguments as they were. -/
import Derived.Test.YtocheaahlpiajaaGreatDoorRouteSignedT
import Derived.Test.YtocheaahlpiajaaGreatDoorRows
import Derived.Test.YtocheaahlpiajaaGreatDoorTie
import Derived.Test.YtocheaahlpiajaaGreatDoorCards
import Derived.LaidMore
import Derived.LaidLaws
import Derived.Stop.Joined
import Derived.Stop.LaidErr
import Derived.Lib.LaidTab
import Derived.MakeChecks
import Derived.LaidHandle
import Derived.SevenTiedAt
set_option linter.unusedVariables false
set_option linter.unusedSimpArgs false
namespace Go.Proofs.YtocheaahlpiajaaGreatDoor
open Go Go.Sx Go.ChangeShapes Go.WideShapes Go.ChangeAt Go.RowKit
theorem own_ : ownKnob Tryz.prog.godebug = none := by kernel_rfl
theorem laidOut_ : laidOutB Tryz.prog = true := by kernel_rfl

theorem door_met (os : Os) (args : Array Value) : laidMetH Tryz.prog Rows.routeSignedRow.laid ((World.doorLaid Tryz.prog 400 os).forCall (fun _ _ => 0) ⟨#[], args, []⟩).memory :=
  laidMetH_of_parts3 (fuel := 8) (laidMet_of_run' 8 (by kernel_rfl) (by kernel_rfl)) (by kernel_rfl) (by kernel_rfl)
theorem tab_laid {W : World} (h : laidMetH Tryz.prog Rows.routeSignedRow.laid W) : Tab W := by
  rw [MakeChecks.laidMetH_plain _ _ _ (by kernel_rfl)] at h
  have h1 : laidMet Tryz.prog [("internal/strconv.uint64pow10", Rows.laid_internal_strconv_uint64pow10)] W := h.tail.tail
  exact Lib.tabIs_of_head (g := 2) (t := 410) (e := 27) (n := 20) (by kernel_rfl) (by kernel_rfl) Tryz.underlying410 Tryz.underlying27 (by kernel_rfl) (by kernel_rfl) h1

set_option maxRecDepth 100000 in
theorem routeSigned_lifted (os : Os) (started : os.Started) (H : Type) (enc : TypeId × Value -> H) :
    ReturnsInHanded {} Tryz.checked os 12 .any (fun w args => (Rows.routeSignedSpec.pre enc Tryz.prog Tryz.f12 Rows.routeSignedRow.domain false w args /\ laidMetH Tryz.prog Rows.routeSignedRow.laid w) /\ sizedMet enc Tryz.prog Tryz.f12 (OpenSpec.ofChange Rows.routeSignedSpec) false w args) (Rows.routeSignedSpec.post enc Tryz.prog Tryz.f12 false true false false) := by
  refine returnsInHanded_of_change_and (C := Tryz.checked) (X := fun w _ => laidMetH Tryz.prog Rows.routeSignedRow.laid w) (fun _ _ _ hh h => h.of_heap hh) own_ started (by kernel_rfl) Tryz.func12
    (ChangeSpec.witness_shaped (enc := enc) (C := Tryz.checked) (os := os) (X := fun w _ => laidMetH Tryz.prog Rows.routeSignedRow.laid w) false (World.doorLaid Tryz.prog 400 os) #[.slice none 0 0, .slice none 0 0, .int .i64 0, .int .i64 0, .int .i64 0, .int .i64 0] 8 rfl (World.shaped_of_RefB (by kernel_rfl) (by kernel_rfl)) (by kernel_rfl) (by kernel_rfl) (by kernel_rfl) (door_met os _)) ?_
  intro W base args ds gs before hval0 hW _ _ hL0 _
  have hTab : Tab W := tab_laid hL0
  have hval : ∀ (j : Nat) t v, Tryz.f12.params[j]? = some t -> args[j]? = some v -> Value.okWide Tryz.prog W .any base t v := hval0
  have hW' := hW
  obtain ⟨p, q, hA0, hV, rfl, hfz, hnd⟩ := hW
  have hA : DataW.TrodAll enc Tryz.prog W 0 (fun _ => true) true Tryz.f12.params.toList args.toList ds p := hA0
  rw [Tryz.params12] at hA hval
  obtain ⟨v0, vs0, d0, ds0, p0, q0, hargs, rfl, rfl, h0, r0⟩ := trodAll_cons hA
  obtain ⟨v1, vs1, d1, ds1, p1, q1, rfl, rfl, rfl, h1, r1⟩ := trodAll_cons r0
  obtain ⟨v2, vs2, d2, ds2, p2, q2, rfl, rfl, rfl, h2, r2⟩ := trodAll_cons r1
  obtain ⟨v3, vs3, d3, ds3, p3, q3, rfl, rfl, rfl, h3, r3⟩ := trodAll_cons r2
  obtain ⟨v4, vs4, d4, ds4, p4, q4, rfl, rfl, rfl, h4, r4⟩ := trodAll_cons r3
  obtain ⟨v5, vs5, d5, ds5, p5, q5, rfl, rfl, rfl, h5, r5⟩ := trodAll_cons r4
  obtain ⟨rfl, rfl, rfl⟩ := trodAll_nil r5
  obtain rfl : args = #[v0, v1, v2, v3, v4, v5] := by cases args; simp_all
  obtain ⟨rfl, rfl⟩ := trodVars_none hV
  have k0 := h0
  have lt0 : ∀ x ∈ p0, x.block < W.heap.size := by obtain ⟨m, hm⟩ := k0; exact DataW.trod_lt m _ _ _ hm
  have k1 := h1
  have lt1 : ∀ x ∈ p1, x.block < W.heap.size := by obtain ⟨m, hm⟩ := k1; exact DataW.trod_lt m _ _ _ hm
  have k2 := h2
  have lt2 : ∀ x ∈ p2, x.block < W.heap.size := by obtain ⟨m, hm⟩ := k2; exact DataW.trod_lt m _ _ _ hm
  have k3 := h3
  have lt3 : ∀ x ∈ p3, x.block < W.heap.size := by obtain ⟨m, hm⟩ := k3; exact DataW.trod_lt m _ _ _ hm
  have k4 := h4
  have lt4 : ∀ x ∈ p4, x.block < W.heap.size := by obtain ⟨m, hm⟩ := k4; exact DataW.trod_lt m _ _ _ hm
  have k5 := h5
  have lt5 : ∀ x ∈ p5, x.block < W.heap.size := by obtain ⟨m, hm⟩ := k5; exact DataW.trod_lt m _ _ _ hm
  obtain ⟨A0, n0, c0, x0, rfl, ⟨s0, g0⟩, b0, m0⟩ := open_us Tryz.underlying35 Tryz.underlying28 (by kernel_rfl) (hval 0 35 v0 rfl rfl) h0
  obtain ⟨A1, n1, c1, x1, rfl, ⟨s1, g1⟩, b1, m1⟩ := open_gads (hval 1 132 v1 rfl rfl) h1
  obtain ⟨a2, rfl, rfl, rfl, s2⟩ := open_int Tryz.underlying3 (hval 2 3 v2 rfl rfl) h2
  obtain ⟨a3, rfl, rfl, rfl, s3⟩ := open_int Tryz.underlying3 (hval 3 3 v3 rfl rfl) h3
  obtain ⟨a4, rfl, rfl, rfl, s4⟩ := open_int Tryz.underlying3 (hval 4 3 v4 rfl rfl) h4
  obtain ⟨a5, rfl, rfl, rfl, s5⟩ := open_int Tryz.underlying3 (hval 5 3 v5 rfl rfl) h5
  clear hA0 hval0
  refine (RouteSigned_ok a2 a3 a4 a5 W hTab (pv1_vec' s0) s1 g1 (Nat.le_trans b0 m0) (Nat.le_trans b1 m1)).mono fun e W' ⟨he, bel⟩ => ?_
  subst he
  exact ⟨_, rfl, _, _, _, [], _, [], hW', trodAll_mk1 (shut_bool Tryz.underlying4 _), (trodAll_cons_mk (Below.trod laidOut_ (by kernel_rfl) (of_decide_eq_true (by kernel_rfl)) k0 bel lt0) (trodAll_cons_mk (Below.trod laidOut_ (by kernel_rfl) (of_decide_eq_true (by kernel_rfl)) k1 bel lt1) (trodAll_cons_mk (Below.trod laidOut_ (by kernel_rfl) (of_decide_eq_true (by kernel_rfl)) k2 bel lt2) (trodAll_cons_mk (Below.trod laidOut_ (by kernel_rfl) (of_decide_eq_true (by kernel_rfl)) k3 bel lt3) (trodAll_cons_mk (Below.trod laidOut_ (by kernel_rfl) (of_decide_eq_true (by kernel_rfl)) k4 bel lt4) (trodAll_cons_mk (Below.trod laidOut_ (by kernel_rfl) (of_decide_eq_true (by kernel_rfl)) k5 bel lt5) trodAll_mk0)))))), rfl, bel.frame _, fun h => by cases h⟩

set_option maxRecDepth 100000 in
theorem routeSigned_jf0 : (Rows.routeSignedRow.wf (OpenSpec.ofChange Rows.routeSignedSpec)) = true := by kernel_rfl
set_option maxRecDepth 100000 in
theorem routeSigned_jf1 : (laidOutB Tryz.prog) = true := by kernel_rfl
set_option maxRecDepth 100000 in
theorem routeSigned_jf2 : (mapsRowed Tryz.prog) = true := by kernel_rfl
set_option maxRecDepth 100000 in
theorem routeSigned_jf3 : (Tryz.f12.params.all (Tryz.prog.readableRec ·)) = true := by kernel_rfl
set_option maxRecDepth 100000 in
theorem routeSigned_jf4 : (namedTie Tryz.prog Rows.routeSignedRow.named Rows.routeSignedSpec.vars) = true := by kernel_rfl
set_option maxRecDepth 100000 in
theorem routeSigned_jf5 : ((Rows.routeSignedRow.stops == [])) = true := by kernel_rfl
set_option maxRecDepth 100000 in
theorem routeSigned_jf6 : ((Tryz.prog.stops == [])) = true := by kernel_rfl
set_option maxRecDepth 100000 in
theorem routeSigned_jf7 : ((Rows.routeSignedRow.knobs == [])) = true := by kernel_rfl
set_option maxRecDepth 100000 in
theorem routeSigned_jf8 : ((Tryz.prog.stopKnobs == [])) = true := by kernel_rfl
set_option maxRecDepth 100000 in
theorem routeSigned_jf9 : ((Rows.routeSignedRow.inPlace == Tryz.prog.inPlace 12)) = true := by kernel_rfl
set_option maxRecDepth 100000 in
theorem routeSigned_jf10 : ((Rows.routeSignedRow.unfollowed == Tryz.prog.unfollowed 12)) = true := by kernel_rfl
set_option maxRecDepth 100000 in
theorem routeSigned_jf11 : ((Rows.routeSignedRow.recurses == Tryz.prog.recurses 12)) = true := by kernel_rfl
set_option maxRecDepth 100000 in
theorem routeSigned_jf12 : ((Rows.routeSignedRow.named == Tryz.prog.varsNamed 12)) = true := by kernel_rfl
set_option maxRecDepth 100000 in
theorem routeSigned_jf13 : ((Rows.routeSignedRow.maps == (Tryz.f12.params.toList ++ Rows.routeSignedSpec.plain.varTypes Tryz.prog).any (Tryz.prog.mapsRec ·))) = true := by kernel_rfl
set_option maxRecDepth 100000 in
theorem routeSigned_jf14 : ((Rows.routeSignedRow.ifaces == (Tryz.f12.params.toList ++ Rows.routeSignedSpec.plain.varTypes Tryz.prog).any (Tryz.prog.ifacesRec ·))) = true := by kernel_rfl
set_option maxRecDepth 100000 in
theorem routeSigned_jf15 : ((Rows.routeSignedRow.mapsOut == Tryz.prog.mapsAmong Tryz.f12.resultTypes.toList)) = true := by kernel_rfl
set_option maxRecDepth 100000 in
theorem routeSigned_jf16 : ((Rows.routeSignedRow.loops == (Tryz.f12.params.toList ++ Rows.routeSignedSpec.plain.varTypes Tryz.prog).any (Tryz.prog.loopsFrom ·))) = true := by kernel_rfl
set_option maxRecDepth 100000 in
theorem routeSigned_jf17 : ((Rows.routeSignedRow.wideKeys == (Tryz.f12.params.toList ++ Rows.routeSignedSpec.plain.varTypes Tryz.prog ++ Tryz.f12.resultTypes.toList).any (Tryz.prog.wideKeysFrom ·))) = true := by kernel_rfl
set_option maxRecDepth 100000 in
theorem routeSigned_jf18 : (Rows.routeSignedSpec.vars.all (Tryz.prog.varReadable ·)) = true := by kernel_rfl
set_option maxRecDepth 100000 in
theorem routeSigned_jf19 : (Tryz.f12.resultTypes.all (fun t => Tryz.prog.readableRec t && decide (t < Tryz.prog.types.size))) = true := by kernel_rfl
set_option maxRecDepth 100000 in
theorem routeSigned_jf20 : ((Rows.routeSignedRow.ifacesOut == Tryz.f12.resultTypes.toList.any (Tryz.prog.ifacesRec ·))) = true := by kernel_rfl
set_option maxRecDepth 100000 in
theorem routeSigned_jf21 : ((Rows.routeSignedRow.loopsOut == Tryz.f12.resultTypes.toList.any (Tryz.prog.loopsFrom ·))) = true := by kernel_rfl
set_option maxRecDepth 100000 in
theorem routeSigned_jf22 : ((Rows.routeSignedRow.plainKeys == Tryz.prog.plainKeys)) = true := by kernel_rfl
set_option maxRecDepth 100000 in
theorem routeSigned_jf23 : (Rows.routeSignedRow.shortTexts.isNone) = true := by kernel_rfl
set_option maxRecDepth 100000 in
theorem routeSigned_jf24 : (Tryz.prog.stopsHeard) = true := by kernel_rfl
set_option maxRecDepth 100000 in
theorem routeSigned_jf25 : (Tryz.prog.mayEnter) = true := by kernel_rfl
set_option maxRecDepth 100000 in
theorem routeSigned_jf26 : ((Rows.routeSignedRow.lifted == Tryz.prog.liftsFinal)) = true := by kernel_rfl
set_option maxRecDepth 100000 in
theorem routeSigned_jf27 : ((Tryz.prog.make == some Rows.routeSignedRow.make)) = true := by kernel_rfl
set_option maxRecDepth 100000 in
theorem routeSigned_jf28 : ((Rows.routeSignedRow.kinds == [])) = true := by kernel_rfl
set_option maxRecDepth 100000 in
theorem routeSigned_jf29 : ((Rows.routeSignedRow.pinned == Rows.routeSignedRow.pinnedBy)) = true := by kernel_rfl
set_option maxRecDepth 100000 in
theorem routeSigned_jf30 : ((Rows.routeSignedRow.veiled == (Tryz.f12.params.toList ++ Rows.routeSignedSpec.plain.varTypes Tryz.prog ++ Tryz.f12.resultTypes.toList).any (Tryz.prog.veiledRec ·))) = true := by kernel_rfl
set_option maxRecDepth 100000 in
theorem routeSigned_jf31 : (Rows.routeSignedRow.veiledFits Tryz.prog Tryz.f12.params.toList (Tryz.f12.params.toList ++ Rows.routeSignedSpec.plain.varTypes Tryz.prog ++ Tryz.f12.resultTypes.toList)) = true := by kernel_rfl
theorem both_yes {a b : Bool} (ha : a = true) (hb : b = true) : (a && b) = true := by rw [ha, hb]; rfl
set_option maxRecDepth 100000 in
theorem routeSigned_joined : joinedFacts Tryz.prog 12 Tryz.f12 Rows.routeSignedSpec Rows.routeSignedRow = true :=
  both_yes (both_yes (both_yes (both_yes (both_yes (both_yes (both_yes (both_yes (both_yes (both_yes (both_yes (both_yes (both_yes (both_yes (both_yes (both_yes (both_yes (both_yes (both_yes (both_yes (both_yes (both_yes (both_yes (both_yes (both_yes (both_yes (both_yes (both_yes (both_yes (both_yes (both_yes (routeSigned_jf0) routeSigned_jf1) routeSigned_jf2) routeSigned_jf3) routeSigned_jf4) routeSigned_jf5) routeSigned_jf6) routeSigned_jf7) routeSigned_jf8) routeSigned_jf9) routeSigned_jf10) routeSigned_jf11) routeSigned_jf12) routeSigned_jf13) routeSigned_jf14) routeSigned_jf15) routeSigned_jf16) routeSigned_jf17) routeSigned_jf18) routeSigned_jf19) routeSigned_jf20) routeSigned_jf21) routeSigned_jf22) routeSigned_jf23) routeSigned_jf24) routeSigned_jf25) routeSigned_jf26) routeSigned_jf27) (by rw [if_pos (show Rows.routeSignedRow.domain.isEmpty = true by kernel_rfl)]; exact routeSigned_jf28)) routeSigned_jf29) routeSigned_jf30) routeSigned_jf31
theorem routeSigned_named : Tryz.prog.funcNamed "corsned/corsnedlaw38.RouteSigned" = some 12 := by kernel_rfl
theorem routeSigned_over : Rows.routeSignedRow.holds Tryz.pinned (OpenSpec.ofChange Rows.routeSignedSpec) :=
  OpenClaim.holds_of_wide 12 Tryz.f12 rfl rfl rfl rfl rfl rfl rfl ⟨rfl, rfl, rfl, rfl, rfl⟩ rfl rfl rfl rfl rfl routeSigned_named Tryz.func12 routeSigned_joined
    (of_decide_eq_true (by kernel_rfl)) (by unfold Func.isWrapper; first | (rw [if_pos (by decide +kernel)]; kernel_rfl) | (rw [if_neg (by decide +kernel)]; exact ⟨rfl, rfl⟩))
    (fun os started H enc _ => routeSigned_lifted os started H enc)

theorem routeSigned_wft : Rows.routeSignedRow.wfByText (OpenSpec.ofChange Rows.routeSignedSpec) = true := by kernel_rfl
theorem routeSigned_looks : true = Tryz.prog.looks [] := by kernel_rfl
theorem routeSigned_goes : false = Rows.routeSignedRow.goesBy Tryz.prog := by kernel_rfl
theorem routeSigned_stand : ([35, 132, 3, 3, 3, 3].all fun u => !Tryz.prog.wantsStandIn u) = true := by kernel_rfl
theorem RouteSigned_holds : Rows.RouteSignedCardSaid :=
  Claim7.holds_tied_plain_at .later [] [.data, .data, .data] true (true, "6ec460ec8289769ce1e62c1c633bcf91a38e308fb69381cf3cc8c6a621cb99e3") true
    routeSigned_over (fun _ h => by cases h) routeSigned_wft (fun _ h => by cases h) routeSigned_row_tie rfl ⟨rfl, rfl⟩ (by kernel_rfl) rfl
    (fun f fn hf hfn => by
      obtain rfl : f = 12 := Option.some.inj (routeSigned_named.symm.trans hf) |>.symm
      obtain rfl : fn = Tryz.f12 := (Option.some.inj (Tryz.func12.symm.trans hfn)).symm
      exact ⟨routeSigned_looks, fun j t ht => by
        rw [Tryz.params12] at ht
        have hm : t ∈ [35, 132, 3, 3, 3, 3] := by simpa using Array.mem_of_getElem? ht
        have hall := routeSigned_stand
        exact (show Tryz.prog.wantsStandIn t = false by simpa using List.all_eq_true.1 hall t hm)⟩)
    routeSigned_goes
end Go.Proofs.YtocheaahlpiajaaGreatDoor

