/- SplitOne: for every input the law answers true and leaves its arguments as they were. -/
import Derived.Test.YtocheaahlpiajaaGreatDoorSplitOneS
import Derived.Test.YtocheaahlpiajaaGreatDoorRows
import Derived.Test.YtocheaahlpiajaaGreatDoorTie
import Derived.Test.YtocheaahlpiajaaGreatDoorCards
import Derived.LaidMore
import Derived.LaidLaws
import Derived.Stop.Joined
import Derived.Stop.LaidErr
import Derived.Lib.LaidTab
import Derived.MakeChecks
import Derived.LaidHandle
import Derived.SevenTiedAt
set_option linter.unusedVariables false
set_option linter.unusedSimpArgs false
namespace Go.Proofs.YtocheaahlpiajaaGreatDoor
open Go Go.Sx Go.ChangeShapes Go.WideShapes Go.ChangeAt Go.RowKit
theorem own_ : ownKnob Tryz.prog.godebug = none := by kernel_rfl
theorem laidOut_ : laidOutB Tryz.prog = true := by kernel_rfl

theorem door_met (os : Os) (args : Array Value) : laidMetH Tryz.prog Rows.splitOneRow.laid ((World.doorLaid Tryz.prog 400 os).forCall (fun _ _ => 0) ⟨#[], args, []⟩).memory :=
  laidMetH_of_parts3 (fuel := 8) (laidMet_of_run' 8 (by kernel_rfl) (by kernel_rfl)) (by kernel_rfl) (by kernel_rfl)
theorem tab_laid {W : World} (h : laidMetH Tryz.prog Rows.splitOneRow.laid W) : Tab W := by
  rw [MakeChecks.laidMetH_plain _ _ _ (by kernel_rfl)] at h
  have h1 : laidMet Tryz.prog [("internal/strconv.uint64pow10", Rows.laid_internal_strconv_uint64pow10)] W := h.tail.tail
  exact Lib.tabIs_of_head (g := 2) (t := 410) (e := 27) (n := 20) (by kernel_rfl) (by kernel_rfl) Tryz.underlying410 Tryz.underlying27 (by kernel_rfl) (by kernel_rfl) h1

set_option maxRecDepth 100000 in
theorem splitOne_lifted (os : Os) (started : os.Started) (H : Type) (enc : TypeId × Value -> H) :
    ReturnsInHanded {} Tryz.checked os 7 .any (fun w args => (Rows.splitOneSpec.pre enc Tryz.prog Tryz.f7 Rows.splitOneRow.domain false w args /\ laidMetH Tryz.prog Rows.splitOneRow.laid w) /\ sizedMet enc Tryz.prog Tryz.f7 (OpenSpec.ofChange Rows.splitOneSpec) false w args) (Rows.splitOneSpec.post enc Tryz.prog Tryz.f7 false true false false) := by
  refine returnsInHanded_of_change_and (C := Tryz.checked) (X := fun w _ => laidMetH Tryz.prog Rows.splitOneRow.laid w) (fun _ _ _ hh h => h.of_heap hh) own_ started (by kernel_rfl) Tryz.func7
    (ChangeSpec.witness_shaped (enc := enc) (C := Tryz.checked) (os := os) (X := fun w _ => laidMetH Tryz.prog Rows.splitOneRow.laid w) false (World.doorLaid Tryz.prog 400 os) #[.int .u16 0, .int .u16 0, .slice none 0 0, .int .u16 0, .int .u8 0] 8 rfl (World.shaped_of_RefB (by kernel_rfl) (by kernel_rfl)) (by kernel_rfl) (by kernel_rfl) (by kernel_rfl) (door_met os _)) ?_
  intro W base args ds gs before hval0 hW _ _ hL0 _
  have hTab : Tab W := tab_laid hL0
  have hval : ∀ (j : Nat) t v, Tryz.f7.params[j]? = some t -> args[j]? = some v -> Value.okWide Tryz.prog W .any base t v := hval0
  have hW' := hW
  obtain ⟨p, q, hA0, hV, rfl, hfz, hnd⟩ := hW
  have hA : DataW.TrodAll enc Tryz.prog W 0 (fun _ => true) true Tryz.f7.params.toList args.toList ds p := hA0
  rw [Tryz.params7] at hA hval
  obtain ⟨v0, vs0, d0, ds0, p0, q0, hargs, rfl, rfl, h0, r0⟩ := trodAll_cons hA
  obtain ⟨v1, vs1, d1, ds1, p1, q1, rfl, rfl, rfl, h1, r1⟩ := trodAll_cons r0
  obtain ⟨v2, vs2, d2, ds2, p2, q2, rfl, rfl, rfl, h2, r2⟩ := trodAll_cons r1
  obtain ⟨v3, vs3, d3, ds3, p3, q3, rfl, rfl, rfl, h3, r3⟩ := trodAll_cons r2
  obtain ⟨v4, vs4, d4, ds4, p4, q4, rfl, rfl, rfl, h4, r4⟩ := trodAll_cons r3
  obtain ⟨rfl, rfl, rfl⟩ := trodAll_nil r4
  obtain rfl : args = #[v0, v1, v2, v3, v4] := by cases args; simp_all
  obtain ⟨rfl, rfl⟩ := trodVars_none hV
  have k0 := h0
  have lt0 : ∀ x ∈ p0, x.block < W.heap.size := by obtain ⟨m, hm⟩ := k0; exact DataW.trod_lt m _ _ _ hm
  have k1 := h1
  have lt1 : ∀ x ∈ p1, x.block < W.heap.size := by obtain ⟨m, hm⟩ := k1; exact DataW.trod_lt m _ _ _ hm
  have k2 := h2
  have lt2 : ∀ x ∈ p2, x.block < W.heap.size := by obtain ⟨m, hm⟩ := k2; exact DataW.trod_lt m _ _ _ hm
  have k3 := h3
  have lt3 : ∀ x ∈ p3, x.block < W.heap.size := by obtain ⟨m, hm⟩ := k3; exact DataW.trod_lt m _ _ _ hm
  have k4 := h4
  have lt4 : ∀ x ∈ p4, x.block < W.heap.size := by obtain ⟨m, hm⟩ := k4; exact DataW.trod_lt m _ _ _ hm
  obtain ⟨x0, rfl, g0⟩ := open_u16n Tryz.underlying88 (hval 0 88 v0 rfl rfl) h0
  obtain ⟨x1, rfl, g1⟩ := open_u16n Tryz.underlying88 (hval 1 88 v1 rfl rfl) h1
  obtain ⟨A2, n2, c2, x2, rfl, ⟨s2, g2⟩, b2, m2⟩ := open_knowns (hval 2 53 v2 rfl rfl) h2
  obtain ⟨x3, rfl, g3⟩ := open_u16n Tryz.underlying88 (hval 3 88 v3 rfl rfl) h3
  obtain ⟨x4, rfl, g4⟩ := open_u8n Tryz.underlying5 (hval 4 5 v4 rfl rfl) h4
  clear hA0 hval0
  refine (SplitOne_ok x0 x1 x3 x4 W hTab g0 g1 s2 (fun q hq => (g2 q hq).2.1) (Nat.le_trans b2 m2) g3 g4).mono fun e W' ⟨he, bel⟩ => ?_
  subst he
  exact ⟨_, rfl, _, _, _, [], _, [], hW', trodAll_mk1 (shut_bool Tryz.underlying4 _), (trodAll_cons_mk (Below.trod laidOut_ (by kernel_rfl) (of_decide_eq_true (by kernel_rfl)) k0 bel lt0) (trodAll_cons_mk (Below.trod laidOut_ (by kernel_rfl) (of_decide_eq_true (by kernel_rfl)) k1 bel lt1) (trodAll_cons_mk (Below.trod laidOut_ (by kernel_rfl) (of_decide_eq_true (by kernel_rfl)) k2 bel lt2) (trodAll_cons_mk (Below.trod laidOut_ (by kernel_rfl) (of_decide_eq_true (by kernel_rfl)) k3 bel lt3) (trodAll_cons_mk (Below.trod laidOut_ (by kernel_rfl) (of_decide_eq_true (by kernel_rfl)) k4 bel lt4) trodAll_mk0))))), rfl, bel.frame _, fun h => by cases h⟩

set_option maxRecDepth 100000 in
theorem splitOne_jf0 : (Rows.splitOneRow.wf (OpenSpec.ofChange Rows.splitOneSpec)) = true := by kernel_rfl
set_option maxRecDepth 100000 in
theorem splitOne_jf1 : (laidOutB Tryz.prog) = true := by kernel_rfl
set_option maxRecDepth 100000 in
theorem splitOne_jf2 : (mapsRowed Tryz.prog) = true := by kernel_rfl
set_option maxRecDepth 100000 in
theorem splitOne_jf3 : (Tryz.f7.params.all (Tryz.prog.readableRec ·)) = true := by kernel_rfl
set_option maxRecDepth 100000 in
theorem splitOne_jf4 : (namedTie Tryz.prog Rows.splitOneRow.named Rows.splitOneSpec.vars) = true := by kernel_rfl
set_option maxRecDepth 100000 in
theorem splitOne_jf5 : ((Rows.splitOneRow.stops == [])) = true := by kernel_rfl
set_option maxRecDepth 100000 in
theorem splitOne_jf6 : ((Tryz.prog.stops == [])) = true := by kernel_rfl
set_option maxRecDepth 100000 in
theorem splitOne_jf7 : ((Rows.splitOneRow.knobs == [])) = true := by kernel_rfl
set_option maxRecDepth 100000 in
theorem splitOne_jf8 : ((Tryz.prog.stopKnobs == [])) = true := by kernel_rfl
set_option maxRecDepth 100000 in
theorem splitOne_jf9 : ((Rows.splitOneRow.inPlace == Tryz.prog.inPlace 7)) = true := by kernel_rfl
set_option maxRecDepth 100000 in
theorem splitOne_jf10 : ((Rows.splitOneRow.unfollowed == Tryz.prog.unfollowed 7)) = true := by kernel_rfl
set_option maxRecDepth 100000 in
theorem splitOne_jf11 : ((Rows.splitOneRow.recurses == Tryz.prog.recurses 7)) = true := by kernel_rfl
set_option maxRecDepth 100000 in
theorem splitOne_jf12 : ((Rows.splitOneRow.named == Tryz.prog.varsNamed 7)) = true := by kernel_rfl
set_option maxRecDepth 100000 in
theorem splitOne_jf13 : ((Rows.splitOneRow.maps == (Tryz.f7.params.toList ++ Rows.splitOneSpec.plain.varTypes Tryz.prog).any (Tryz.prog.mapsRec ·))) = true := by kernel_rfl
set_option maxRecDepth 100000 in
theorem splitOne_jf14 : ((Rows.splitOneRow.ifaces == (Tryz.f7.params.toList ++ Rows.splitOneSpec.plain.varTypes Tryz.prog).any (Tryz.prog.ifacesRec ·))) = true := by kernel_rfl
set_option maxRecDepth 100000 in
theorem splitOne_jf15 : ((Rows.splitOneRow.mapsOut == Tryz.prog.mapsAmong Tryz.f7.resultTypes.toList)) = true := by kernel_rfl
set_option maxRecDepth 100000 in
theorem splitOne_jf16 : ((Rows.splitOneRow.loops == (Tryz.f7.params.toList ++ Rows.splitOneSpec.plain.varTypes Tryz.prog).any (Tryz.prog.loopsFrom ·))) = true := by kernel_rfl
set_option maxRecDepth 100000 in
theorem splitOne_jf17 : ((Rows.splitOneRow.wideKeys == (Tryz.f7.params.toList ++ Rows.splitOneSpec.plain.varTypes Tryz.prog ++ Tryz.f7.resultTypes.toList).any (Tryz.prog.wideKeysFrom ·))) = true := by kernel_rfl
set_option maxRecDepth 100000 in
theorem splitOne_jf18 : (Rows.splitOneSpec.vars.all (Tryz.prog.varReadable ·)) = true := by kernel_rfl
set_option maxRecDepth 100000 in
theorem splitOne_jf19 : (Tryz.f7.resultTypes.all (fun t => Tryz.prog.readableRec t && decide (t < Tryz.prog.types.size))) = true := by kernel_rfl
set_option maxRecDepth 100000 in
theorem splitOne_jf20 : ((Rows.splitOneRow.ifacesOut == Tryz.f7.resultTypes.toList.any (Tryz.prog.ifacesRec ·))) = true := by kernel_rfl
set_option maxRecDepth 100000 in
theorem splitOne_jf21 : ((Rows.splitOneRow.loopsOut == Tryz.f7.resultTypes.toList.any (Tryz.prog.loopsFrom ·))) = true := by kernel_rfl
set_option maxRecDepth 100000 in
theorem splitOne_jf22 : ((Rows.splitOneRow.plainKeys == Tryz.prog.plainKeys)) = true := by kernel_rfl
set_option maxRecDepth 100000 in
theorem splitOne_jf23 : (Rows.splitOneRow.shortTexts.isNone) = true := by kernel_rfl
set_option maxRecDepth 100000 in
theorem splitOne_jf24 : (Tryz.prog.stopsHeard) = true := by kernel_rfl
set_option maxRecDepth 100000 in
theorem splitOne_jf25 : (Tryz.prog.mayEnter) = true := by kernel_rfl
set_option maxRecDepth 100000 in
theorem splitOne_jf26 : ((Rows.splitOneRow.lifted == Tryz.prog.liftsFinal)) = true := by kernel_rfl
set_option maxRecDepth 100000 in
theorem splitOne_jf27 : ((Tryz.prog.make == some Rows.splitOneRow.make)) = true := by kernel_rfl
set_option maxRecDepth 100000 in
theorem splitOne_jf28 : ((Rows.splitOneRow.kinds == [])) = true := by kernel_rfl
set_option maxRecDepth 100000 in
theorem splitOne_jf29 : ((Rows.splitOneRow.pinned == Rows.splitOneRow.pinnedBy)) = true := by kernel_rfl
set_option maxRecDepth 100000 in
theorem splitOne_jf30 : ((Rows.splitOneRow.veiled == (Tryz.f7.params.toList ++ Rows.splitOneSpec.plain.varTypes Tryz.prog ++ Tryz.f7.resultTypes.toList).any (Tryz.prog.veiledRec ·))) = true := by kernel_rfl
set_option maxRecDepth 100000 in
theorem splitOne_jf31 : (Rows.splitOneRow.veiledFits Tryz.prog Tryz.f7.params.toList (Tryz.f7.params.toList ++ Rows.splitOneSpec.plain.varTypes Tryz.prog ++ Tryz.f7.resultTypes.toList)) = true := by kernel_rfl
theorem both_yes {a b : Bool} (ha : a = true) (hb : b = true) : (a && b) = true := by rw [ha, hb]; rfl
set_option maxRecDepth 100000 in
theorem splitOne_joined : joinedFacts Tryz.prog 7 Tryz.f7 Rows.splitOneSpec Rows.splitOneRow = true :=
  both_yes (both_yes (both_yes (both_yes (both_yes (both_yes (both_yes (both_yes (both_yes (both_yes (both_yes (both_yes (both_yes (both_yes (both_yes (both_yes (both_yes (both_yes (both_yes (both_yes (both_yes (both_yes (both_yes (both_yes (both_yes (both_yes (both_yes (both_yes (both_yes (both_yes (both_yes (splitOne_jf0) splitOne_jf1) splitOne_jf2) splitOne_jf3) splitOne_jf4) splitOne_jf5) splitOne_jf6) splitOne_jf7) splitOne_jf8) splitOne_jf9) splitOne_jf10) splitOne_jf11) splitOne_jf12) splitOne_jf13) splitOne_jf14) splitOne_jf15) splitOne_jf16) splitOne_jf17) splitOne_jf18) splitOne_jf19) splitOne_jf20) splitOne_jf21) splitOne_jf22) splitOne_jf23) splitOne_jf24) splitOne_jf25) splitOne_jf26) splitOne_jf27) (by rw [if_pos (show Rows.splitOneRow.domain.isEmpty = true by kernel_rfl)]; exact splitOne_jf28)) splitOne_jf29) splitOne_jf30) splitOne_jf31
theorem splitOne_named : Tryz.prog.funcNamed "corsned/corsnedlaw39.SplitOne" = some 7 := by kernel_rfl
theorem splitOne_over : Rows.splitOneRow.holds Tryz.pinned (OpenSpec.ofChange Rows.splitOneSpec) :=
  OpenClaim.holds_of_wide 7 Tryz.f7 rfl rfl rfl rfl rfl rfl rfl ⟨rfl, rfl, rfl, rfl, rfl⟩ rfl rfl rfl rfl rfl splitOne_named Tryz.func7 splitOne_joined
    (of_decide_eq_true (by kernel_rfl)) (by unfold Func.isWrapper; first | (rw [if_pos (by decide +kernel)]; kernel_rfl) | (rw [if_neg (by decide +kernel)]; exact ⟨rfl, rfl⟩))
    (fun os started H enc _ => splitOne_lifted os started H enc)

theorem splitOne_wft : Rows.splitOneRow.wfByText (OpenSpec.ofChange Rows.splitOneSpec) = true := by kernel_rfl
theorem splitOne_looks : true = Tryz.prog.looks [] := by kernel_rfl
theorem splitOne_goes : false = Rows.splitOneRow.goesBy Tryz.prog := by kernel_rfl
theorem splitOne_stand : ([88, 88, 53, 88, 5].all fun u => !Tryz.prog.wantsStandIn u) = true := by kernel_rfl
theorem SplitOne_holds : Rows.SplitOneCardSaid :=
  Claim7.holds_tied_plain_at .later [] [.data, .data, .data] true (true, "6ec460ec8289769ce1e62c1c633bcf91a38e308fb69381cf3cc8c6a621cb99e3") true
    splitOne_over (fun _ h => by cases h) splitOne_wft (fun _ h => by cases h) splitOne_row_tie rfl ⟨rfl, rfl⟩ (by kernel_rfl) rfl
    (fun f fn hf hfn => by
      obtain rfl : f = 7 := Option.some.inj (splitOne_named.symm.trans hf) |>.symm
      obtain rfl : fn = Tryz.f7 := (Option.some.inj (Tryz.func7.symm.trans hfn)).symm
      exact ⟨splitOne_looks, fun j t ht => by
        rw [Tryz.params7] at ht
        have hm : t ∈ [88, 88, 53, 88, 5] := by simpa using Array.mem_of_getElem? ht
        have hall := splitOne_stand
        exact (show Tryz.prog.wantsStandIn t = false by simpa using List.all_eq_true.1 hall t hm)⟩)
    splitOne_goes
end Go.Proofs.YtocheaahlpiajaaGreatDoor

