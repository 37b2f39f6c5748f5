/- SplitHeld: for every input the law answers true and leaves its arguments as they were. -/
import Derived.Test.YtocheaahlpiajaaGreatDoorSplitHeldS
import Derived.Test.YtocheaahlpiajaaGreatDoorRows
import Derived.Test.YtocheaahlpiajaaGreatDoorTie
import Derived.Test.YtocheaahlpiajaaGreatDoorCards
import Derived.LaidMore
import Derived.LaidLaws
import Derived.Stop.Joined
import Derived.Stop.LaidErr
import Derived.Lib.LaidTab
import Derived.MakeChecks
import Derived.LaidHandle
import Derived.SevenTiedAt
set_option linter.unusedVariables false
set_option linter.unusedSimpArgs false
namespace Go.Proofs.YtocheaahlpiajaaGreatDoor
open Go Go.Sx Go.ChangeShapes Go.WideShapes Go.ChangeAt Go.RowKit
theorem own_ : ownKnob Tryz.prog.godebug = none := by kernel_rfl
theorem laidOut_ : laidOutB Tryz.prog = true := by kernel_rfl

theorem door_met (os : Os) (args : Array Value) : laidMetH Tryz.prog Rows.splitHeldRow.laid ((World.doorLaid Tryz.prog 400 os).forCall (fun _ _ => 0) ⟨#[], args, []⟩).memory :=
  laidMetH_of_parts3 (fuel := 8) (laidMet_of_run' 8 (by kernel_rfl) (by kernel_rfl)) (by kernel_rfl) (by kernel_rfl)
theorem tab_laid {W : World} (h : laidMetH Tryz.prog Rows.splitHeldRow.laid W) : Tab W := by
  rw [MakeChecks.laidMetH_plain _ _ _ (by kernel_rfl)] at h
  have h1 : laidMet Tryz.prog [("internal/strconv.uint64pow10", Rows.laid_internal_strconv_uint64pow10)] W := h.tail.tail
  exact Lib.tabIs_of_head (g := 2) (t := 410) (e := 27) (n := 20) (by kernel_rfl) (by kernel_rfl) Tryz.underlying410 Tryz.underlying27 (by kernel_rfl) (by kernel_rfl) h1

set_option maxRecDepth 100000 in
theorem splitHeld_lifted (os : Os) (started : os.Started) (H : Type) (enc : TypeId × Value -> H) :
    ReturnsInHanded {} Tryz.checked os 11 .any (fun w args => (Rows.splitHeldSpec.pre enc Tryz.prog Tryz.f11 Rows.splitHeldRow.domain false w args /\ laidMetH Tryz.prog Rows.splitHeldRow.laid w) /\ sizedMet enc Tryz.prog Tryz.f11 (OpenSpec.ofChange Rows.splitHeldSpec) false w args) (Rows.splitHeldSpec.post enc Tryz.prog Tryz.f11 false true false false) := by
  refine returnsInHanded_of_change_and (C := Tryz.checked) (X := fun w _ => laidMetH Tryz.prog Rows.splitHeldRow.laid w) (fun _ _ _ hh h => h.of_heap hh) own_ started (by kernel_rfl) Tryz.func11
    (ChangeSpec.witness_shaped (enc := enc) (C := Tryz.checked) (os := os) (X := fun w _ => laidMetH Tryz.prog Rows.splitHeldRow.laid w) false (World.doorLaid Tryz.prog 400 os) #[.slice none 0 0, .slice none 0 0, .int .i64 0, .int .i64 0, .int .i64 0, .int .i64 0, .int .u8 0, .int .u64 0, .agg #[.int .u8 0, .int .u8 0, .int .u8 0, .int .u8 0, .int .u8 0, .int .u8 0, .int .u8 0, .int .u8 0, .int .u8 0, .int .u8 0, .int .u8 0, .int .u8 0, .int .u8 0, .int .u8 0, .int .u8 0, .int .u8 0, .int .u8 0, .int .u8 0, .int .u8 0, .int .u8 0, .int .u8 0, .int .u8 0, .int .u8 0, .int .u8 0, .int .u8 0, .int .u8 0, .int .u8 0, .int .u8 0, .int .u8 0, .int .u8 0, .int .u8 0, .int .u8 0]] 8 rfl (World.shaped_of_RefB (by kernel_rfl) (by kernel_rfl)) (by kernel_rfl) (by kernel_rfl) (by kernel_rfl) (door_met os _)) ?_
  intro W base args ds gs before hval0 hW _ _ hL0 _
  have hTab : Tab W := tab_laid hL0
  have hval : ∀ (j : Nat) t v, Tryz.f11.params[j]? = some t -> args[j]? = some v -> Value.okWide Tryz.prog W .any base t v := hval0
  have hW' := hW
  obtain ⟨p, q, hA0, hV, rfl, hfz, hnd⟩ := hW
  have hA : DataW.TrodAll enc Tryz.prog W 0 (fun _ => true) true Tryz.f11.params.toList args.toList ds p := hA0
  rw [Tryz.params11] at hA hval
  obtain ⟨v0, vs0, d0, ds0, p0, q0, hargs, rfl, rfl, h0, r0⟩ := trodAll_cons hA
  obtain ⟨v1, vs1, d1, ds1, p1, q1, rfl, rfl, rfl, h1, r1⟩ := trodAll_cons r0
  obtain ⟨v2, vs2, d2, ds2, p2, q2, rfl, rfl, rfl, h2, r2⟩ := trodAll_cons r1
  obtain ⟨v3, vs3, d3, ds3, p3, q3, rfl, rfl, rfl, h3, r3⟩ := trodAll_cons r2
  obtain ⟨v4, vs4, d4, ds4, p4, q4, rfl, rfl, rfl, h4, r4⟩ := trodAll_cons r3
  obtain ⟨v5, vs5, d5, ds5, p5, q5, rfl, rfl, rfl, h5, r5⟩ := trodAll_cons r4
  obtain ⟨v6, vs6, d6, ds6, p6, q6, rfl, rfl, rfl, h6, r6⟩ := trodAll_cons r5
  obtain ⟨v7, vs7, d7, ds7, p7, q7, rfl, rfl, rfl, h7, r7⟩ := trodAll_cons r6
  obtain ⟨v8, vs8, d8, ds8, p8, q8, rfl, rfl, rfl, h8, r8⟩ := trodAll_cons r7
  obtain ⟨rfl, rfl, rfl⟩ := trodAll_nil r8
  obtain rfl : args = #[v0, v1, v2, v3, v4, v5, v6, v7, v8] := by cases args; simp_all
  obtain ⟨rfl, rfl⟩ := trodVars_none hV
  have k0 := h0
  have lt0 : ∀ x ∈ p0, x.block < W.heap.size := by obtain ⟨m, hm⟩ := k0; exact DataW.trod_lt m _ _ _ hm
  have k1 := h1
  have lt1 : ∀ x ∈ p1, x.block < W.heap.size := by obtain ⟨m, hm⟩ := k1; exact DataW.trod_lt m _ _ _ hm
  have k2 := h2
  have lt2 : ∀ x ∈ p2, x.block < W.heap.size := by obtain ⟨m, hm⟩ := k2; exact DataW.trod_lt m _ _ _ hm
  have k3 := h3
  have lt3 : ∀ x ∈ p3, x.block < W.heap.size := by obtain ⟨m, hm⟩ := k3; exact DataW.trod_lt m _ _ _ hm
  have k4 := h4
  have lt4 : ∀ x ∈ p4, x.block < W.heap.size := by obtain ⟨m, hm⟩ := k4; exact DataW.trod_lt m _ _ _ hm
  have k5 := h5
  have lt5 : ∀ x ∈ p5, x.block < W.heap.size := by obtain ⟨m, hm⟩ := k5; exact DataW.trod_lt m _ _ _ hm
  have k6 := h6
  have lt6 : ∀ x ∈ p6, x.block < W.heap.size := by obtain ⟨m, hm⟩ := k6; exact DataW.trod_lt m _ _ _ hm
  have k7 := h7
  have lt7 : ∀ x ∈ p7, x.block < W.heap.size := by obtain ⟨m, hm⟩ := k7; exact DataW.trod_lt m _ _ _ hm
  have k8 := h8
  have lt8 : ∀ x ∈ p8, x.block < W.heap.size := by obtain ⟨m, hm⟩ := k8; exact DataW.trod_lt m _ _ _ hm
  obtain ⟨A0, n0, c0, x0, rfl, ⟨s0, g0⟩, b0, m0⟩ := open_edges (hval 0 32 v0 rfl rfl) h0
  obtain ⟨A1, n1, c1, x1, rfl, ⟨s1, g1⟩, b1, m1⟩ := open_knowns (hval 1 53 v1 rfl rfl) h1
  obtain ⟨a2, rfl, rfl, rfl, s2⟩ := open_int Tryz.underlying3 (hval 2 3 v2 rfl rfl) h2
  obtain ⟨a3, rfl, rfl, rfl, s3⟩ := open_int Tryz.underlying3 (hval 3 3 v3 rfl rfl) h3
  obtain ⟨a4, rfl, rfl, rfl, s4⟩ := open_int Tryz.underlying3 (hval 4 3 v4 rfl rfl) h4
  obtain ⟨a5, rfl, rfl, rfl, s5⟩ := open_int Tryz.underlying3 (hval 5 3 v5 rfl rfl) h5
  obtain ⟨x6, rfl, g6⟩ := open_u8n Tryz.underlying5 (hval 6 5 v6 rfl rfl) h6
  obtain ⟨x7, rfl, g7⟩ := open_u64 Tryz.underlying28 (hval 7 28 v7 rfl rfl) h7
  obtain ⟨x8, rfl, s8⟩ := open_bytes Tryz.underlying30 Tryz.underlying5 (by kernel_rfl) (by kernel_rfl) (hval 8 30 v8 rfl rfl) h8
  clear hA0 hval0
  refine (SplitHeld_ok a2 a3 a4 a5 x6 x7 s8 W hTab s0 s1 (fun q hq => (g1 q hq).2.1) b0 (Nat.le_trans b0 m0) (Nat.le_trans b1 m1) (bounds_i64 s4) g6).mono fun e W' ⟨he, bel⟩ => ?_
  subst he
  exact ⟨_, rfl, _, _, _, [], _, [], hW', trodAll_mk1 (shut_bool Tryz.underlying4 _), (trodAll_cons_mk (Below.trod laidOut_ (by kernel_rfl) (of_decide_eq_true (by kernel_rfl)) k0 bel lt0) (trodAll_cons_mk (Below.trod laidOut_ (by kernel_rfl) (of_decide_eq_true (by kernel_rfl)) k1 bel lt1) (trodAll_cons_mk (Below.trod laidOut_ (by kernel_rfl) (of_decide_eq_true (by kernel_rfl)) k2 bel lt2) (trodAll_cons_mk (Below.trod laidOut_ (by kernel_rfl) (of_decide_eq_true (by kernel_rfl)) k3 bel lt3) (trodAll_cons_mk (Below.trod laidOut_ (by kernel_rfl) (of_decide_eq_true (by kernel_rfl)) k4 bel lt4) (trodAll_cons_mk (Below.trod laidOut_ (by kernel_rfl) (of_decide_eq_true (by kernel_rfl)) k5 bel lt5) (trodAll_cons_mk (Below.trod laidOut_ (by kernel_rfl) (of_decide_eq_true (by kernel_rfl)) k6 bel lt6) (trodAll_cons_mk (Below.trod laidOut_ (by kernel_rfl) (of_decide_eq_true (by kernel_rfl)) k7 bel lt7) (trodAll_cons_mk (Below.trod laidOut_ (by kernel_rfl) (of_decide_eq_true (by kernel_rfl)) k8 bel lt8) trodAll_mk0))))))))), rfl, bel.frame _, fun h => by cases h⟩

set_option maxRecDepth 100000 in
theorem splitHeld_jf0 : (Rows.splitHeldRow.wf (OpenSpec.ofChange Rows.splitHeldSpec)) = true := by kernel_rfl
set_option maxRecDepth 100000 in
theorem splitHeld_jf1 : (laidOutB Tryz.prog) = true := by kernel_rfl
set_option maxRecDepth 100000 in
theorem splitHeld_jf2 : (mapsRowed Tryz.prog) = true := by kernel_rfl
set_option maxRecDepth 100000 in
theorem splitHeld_jf3 : (Tryz.f11.params.all (Tryz.prog.readableRec ·)) = true := by kernel_rfl
set_option maxRecDepth 100000 in
theorem splitHeld_jf4 : (namedTie Tryz.prog Rows.splitHeldRow.named Rows.splitHeldSpec.vars) = true := by kernel_rfl
set_option maxRecDepth 100000 in
theorem splitHeld_jf5 : ((Rows.splitHeldRow.stops == [])) = true := by kernel_rfl
set_option maxRecDepth 100000 in
theorem splitHeld_jf6 : ((Tryz.prog.stops == [])) = true := by kernel_rfl
set_option maxRecDepth 100000 in
theorem splitHeld_jf7 : ((Rows.splitHeldRow.knobs == [])) = true := by kernel_rfl
set_option maxRecDepth 100000 in
theorem splitHeld_jf8 : ((Tryz.prog.stopKnobs == [])) = true := by kernel_rfl
set_option maxRecDepth 100000 in
theorem splitHeld_jf9 : ((Rows.splitHeldRow.inPlace == Tryz.prog.inPlace 11)) = true := by kernel_rfl
set_option maxRecDepth 100000 in
theorem splitHeld_jf10 : ((Rows.splitHeldRow.unfollowed == Tryz.prog.unfollowed 11)) = true := by kernel_rfl
set_option maxRecDepth 100000 in
theorem splitHeld_jf11 : ((Rows.splitHeldRow.recurses == Tryz.prog.recurses 11)) = true := by kernel_rfl
set_option maxRecDepth 100000 in
theorem splitHeld_jf12 : ((Rows.splitHeldRow.named == Tryz.prog.varsNamed 11)) = true := by kernel_rfl
set_option maxRecDepth 100000 in
theorem splitHeld_jf13 : ((Rows.splitHeldRow.maps == (Tryz.f11.params.toList ++ Rows.splitHeldSpec.plain.varTypes Tryz.prog).any (Tryz.prog.mapsRec ·))) = true := by kernel_rfl
set_option maxRecDepth 100000 in
theorem splitHeld_jf14 : ((Rows.splitHeldRow.ifaces == (Tryz.f11.params.toList ++ Rows.splitHeldSpec.plain.varTypes Tryz.prog).any (Tryz.prog.ifacesRec ·))) = true := by kernel_rfl
set_option maxRecDepth 100000 in
theorem splitHeld_jf15 : ((Rows.splitHeldRow.mapsOut == Tryz.prog.mapsAmong Tryz.f11.resultTypes.toList)) = true := by kernel_rfl
set_option maxRecDepth 100000 in
theorem splitHeld_jf16 : ((Rows.splitHeldRow.loops == (Tryz.f11.params.toList ++ Rows.splitHeldSpec.plain.varTypes Tryz.prog).any (Tryz.prog.loopsFrom ·))) = true := by kernel_rfl
set_option maxRecDepth 100000 in
theorem splitHeld_jf17 : ((Rows.splitHeldRow.wideKeys == (Tryz.f11.params.toList ++ Rows.splitHeldSpec.plain.varTypes Tryz.prog ++ Tryz.f11.resultTypes.toList).any (Tryz.prog.wideKeysFrom ·))) = true := by kernel_rfl
set_option maxRecDepth 100000 in
theorem splitHeld_jf18 : (Rows.splitHeldSpec.vars.all (Tryz.prog.varReadable ·)) = true := by kernel_rfl
set_option maxRecDepth 100000 in
theorem splitHeld_jf19 : (Tryz.f11.resultTypes.all (fun t => Tryz.prog.readableRec t && decide (t < Tryz.prog.types.size))) = true := by kernel_rfl
set_option maxRecDepth 100000 in
theorem splitHeld_jf20 : ((Rows.splitHeldRow.ifacesOut == Tryz.f11.resultTypes.toList.any (Tryz.prog.ifacesRec ·))) = true := by kernel_rfl
set_option maxRecDepth 100000 in
theorem splitHeld_jf21 : ((Rows.splitHeldRow.loopsOut == Tryz.f11.resultTypes.toList.any (Tryz.prog.loopsFrom ·))) = true := by kernel_rfl
set_option maxRecDepth 100000 in
theorem splitHeld_jf22 : ((Rows.splitHeldRow.plainKeys == Tryz.prog.plainKeys)) = true := by kernel_rfl
set_option maxRecDepth 100000 in
theorem splitHeld_jf23 : (Rows.splitHeldRow.shortTexts.isNone) = true := by kernel_rfl
set_option maxRecDepth 100000 in
theorem splitHeld_jf24 : (Tryz.prog.stopsHeard) = true := by kernel_rfl
set_option maxRecDepth 100000 in
theorem splitHeld_jf25 : (Tryz.prog.mayEnter) = true := by kernel_rfl
set_option maxRecDepth 100000 in
theorem splitHeld_jf26 : ((Rows.splitHeldRow.lifted == Tryz.prog.liftsFinal)) = true := by kernel_rfl
set_option maxRecDepth 100000 in
theorem splitHeld_jf27 : ((Tryz.prog.make == some Rows.splitHeldRow.make)) = true := by kernel_rfl
set_option maxRecDepth 100000 in
theorem splitHeld_jf28 : ((Rows.splitHeldRow.kinds == [])) = true := by kernel_rfl
set_option maxRecDepth 100000 in
theorem splitHeld_jf29 : ((Rows.splitHeldRow.pinned == Rows.splitHeldRow.pinnedBy)) = true := by kernel_rfl
set_option maxRecDepth 100000 in
theorem splitHeld_jf30 : ((Rows.splitHeldRow.veiled == (Tryz.f11.params.toList ++ Rows.splitHeldSpec.plain.varTypes Tryz.prog ++ Tryz.f11.resultTypes.toList).any (Tryz.prog.veiledRec ·))) = true := by kernel_rfl
set_option maxRecDepth 100000 in
theorem splitHeld_jf31 : (Rows.splitHeldRow.veiledFits Tryz.prog Tryz.f11.params.toList (Tryz.f11.params.toList ++ Rows.splitHeldSpec.plain.varTypes Tryz.prog ++ Tryz.f11.resultTypes.toList)) = true := by kernel_rfl
theorem both_yes {a b : Bool} (ha : a = true) (hb : b = true) : (a && b) = true := by rw [ha, hb]; rfl
set_option maxRecDepth 100000 in
theorem splitHeld_joined : joinedFacts Tryz.prog 11 Tryz.f11 Rows.splitHeldSpec Rows.splitHeldRow = true :=
  both_yes (both_yes (both_yes (both_yes (both_yes (both_yes (both_yes (both_yes (both_yes (both_yes (both_yes (both_yes (both_yes (both_yes (both_yes (both_yes (both_yes (both_yes (both_yes (both_yes (both_yes (both_yes (both_yes (both_yes (both_yes (both_yes (both_yes (both_yes (both_yes (both_yes (both_yes (splitHeld_jf0) splitHeld_jf1) splitHeld_jf2) splitHeld_jf3) splitHeld_jf4) splitHeld_jf5) splitHeld_jf6) splitHeld_jf7) splitHeld_jf8) splitHeld_jf9) splitHeld_jf10) splitHeld_jf11) splitHeld_jf12) splitHeld_jf13) splitHeld_jf14) splitHeld_jf15) splitHeld_jf16) splitHeld_jf17) splitHeld_jf18) splitHeld_jf19) splitHeld_jf20) splitHeld_jf21) splitHeld_jf22) splitHeld_jf23) splitHeld_jf24) splitHeld_jf25) splitHeld_jf26) splitHeld_jf27) (by rw [if_pos (show Rows.splitHeldRow.domain.isEmpty = true by kernel_rfl)]; exact splitHeld_jf28)) splitHeld_jf29) splitHeld_jf30) splitHeld_jf31
theorem splitHeld_named : Tryz.prog.funcNamed "corsned/corsnedlaw39.SplitHeld" = some 11 := by kernel_rfl
theorem splitHeld_over : Rows.splitHeldRow.holds Tryz.pinned (OpenSpec.ofChange Rows.splitHeldSpec) :=
  OpenClaim.holds_of_wide 11 Tryz.f11 rfl rfl rfl rfl rfl rfl rfl ⟨rfl, rfl, rfl, rfl, rfl⟩ rfl rfl rfl rfl rfl splitHeld_named Tryz.func11 splitHeld_joined
    (of_decide_eq_true (by kernel_rfl)) (by unfold Func.isWrapper; first | (rw [if_pos (by decide +kernel)]; kernel_rfl) | (rw [if_neg (by decide +kernel)]; exact ⟨rfl, rfl⟩))
    (fun os started H enc _ => splitHeld_lifted os started H enc)

theorem splitHeld_wft : Rows.splitHeldRow.wfByText (OpenSpec.ofChange Rows.splitHeldSpec) = true := by kernel_rfl
theorem splitHeld_looks : true = Tryz.prog.looks [] := by kernel_rfl
theorem splitHeld_goes : false = Rows.splitHeldRow.goesBy Tryz.prog := by kernel_rfl
theorem splitHeld_stand : ([32, 53, 3, 3, 3, 3, 5, 28, 30].all fun u => !Tryz.prog.wantsStandIn u) = true := by kernel_rfl
theorem SplitHeld_holds : Rows.SplitHeldCardSaid :=
  Claim7.holds_tied_plain_at .later [] [.data, .data, .data] true (true, "6ec460ec8289769ce1e62c1c633bcf91a38e308fb69381cf3cc8c6a621cb99e3") true
    splitHeld_over (fun _ h => by cases h) splitHeld_wft (fun _ h => by cases h) splitHeld_row_tie rfl ⟨rfl, rfl⟩ (by kernel_rfl) rfl
    (fun f fn hf hfn => by
      obtain rfl : f = 11 := Option.some.inj (splitHeld_named.symm.trans hf) |>.symm
      obtain rfl : fn = Tryz.f11 := (Option.some.inj (Tryz.func11.symm.trans hfn)).symm
      exact ⟨splitHeld_looks, fun j t ht => by
        rw [Tryz.params11] at ht
        have hm : t ∈ [32, 53, 3, 3, 3, 3, 5, 28, 30] := by simpa using Array.mem_of_getElem? ht
        have hall := splitHeld_stand
        exact (show Tryz.prog.wantsStandIn t = false by simpa using List.all_eq_true.1 hall t hm)⟩)
    splitHeld_goes
end Go.Proofs.YtocheaahlpiajaaGreatDoor

