/- LedgerSides: for every input the law answers true and leaves its arguments as they were. -/
import Derived.Test.YtkpmaajniagncaaGreatDoorLedgerSidesU
import Derived.Test.YtkpmaajniagncaaGreatDoorRows
import Derived.Test.YtkpmaajniagncaaGreatDoorTie
import Derived.Test.YtkpmaajniagncaaGreatDoorCards
import Derived.LaidMore
import Derived.LaidLaws
import Derived.Stop.Joined
import Derived.Stop.LaidErr
import Derived.Lib.LaidTab
import Derived.MakeChecks
import Derived.LaidHandle
import Derived.SevenTiedAt
set_option linter.defProp false
set_option linter.unusedVariables false
set_option linter.unusedSimpArgs false
namespace Go.Proofs.YtkpmaajniagncaaGreatDoor
open Go Go.Sx Go.ChangeShapes Go.WideShapes Go.ChangeAt Go.RowKit
theorem aeH : ownKnob Tryz.prog.godebug = none := by kernel_rfl
theorem O4 : laidOutB Tryz.prog = true := by kernel_rfl
theorem Zx (os : Os) (args : Array Value) : laidMetH Tryz.prog Rows.ledgerSidesRow.laid ((World.doorLaid Tryz.prog 400 os).forCall (fun _ _ => 0) ⟨#[], args, []⟩).memory :=
 laidMetH_of_parts3 (fuel := 8) (laidMet_of_run' 8 (by kernel_rfl) (by kernel_rfl)) (by kernel_rfl) (by kernel_rfl)
theorem Zy {W:World} (h : laidMetH Tryz.prog Rows.ledgerSidesRow.laid W) : C8 W := by
 rw [MakeChecks.laidMetH_plain _ _ _ (by kernel_rfl)] at h
 have h1 : laidMet Tryz.prog [("math/bits.deBruijn64tab", Rows.laid_math_bits_deBruijn64tab)] W := h.tail
 have h2 : Lib.TabIs Tryz.prog W "math/bits.deBruijn64tab" .u8 (Lib.deBruijn64tab.map fun x => ((x : Nat) : Int)) := Lib.tabIs_of_head (g := 4) (t := 337) (e := 5) (n := 64) (by kernel_rfl) (by kernel_rfl) Tryz.underlying337 Tryz.underlying5 (by kernel_rfl) (by kernel_rfl) h1
 intro j hj
 have hl : j < Lib.deBruijn64tab.length := hj
 unfold Lib.TabIs World.var? at h2
 rw [show Tryz.prog.globalNamed "math/bits.deBruijn64tab" = some 4 by kernel_rfl, Option.bind_some] at h2
 unfold World.cell?
 split at h2
 ·rename_i cs _ _ e
  injection h2 with h2
  subst h2
  show (match W.heap[4]? with | some (.cells c _ _) => if (none : Option _).isSome then none else c[j]? | _ => none) = _
  rw [e]
  simp [List.getD, hl]
 ·cases h2
set_option maxRecDepth 100000 in
theorem Bu (os : Os) (started : os.Started) (H : Type) (enc : TypeId × Value -> H) :
  ReturnsInHanded {} Tryz.checked os 3 .any (fun w args => (Rows.ledgerSidesSpec.pre enc Tryz.prog Tryz.f3 Rows.ledgerSidesRow.domain false w args /\ laidMetH Tryz.prog Rows.ledgerSidesRow.laid w) /\ sizedMet enc Tryz.prog Tryz.f3 (OpenSpec.ofChange Rows.ledgerSidesSpec) false w args) (Rows.ledgerSidesSpec.post enc Tryz.prog Tryz.f3 false true false false) := by
 refine returnsInHanded_of_change_and (C := Tryz.checked) (X := fun w _ => laidMetH Tryz.prog Rows.ledgerSidesRow.laid w) (fun _ _ _ hh h => h.of_heap hh) aeH started (by kernel_rfl) Tryz.func3
  (ChangeSpec.witness_shaped (enc := enc) (C := Tryz.checked) (os := os) (X := fun w _ => laidMetH Tryz.prog Rows.ledgerSidesRow.laid w) false (World.doorLaid Tryz.prog 400 os) #[.agg #[.int .u8 0, .int .u8 0, .int .u8 0, .int .u8 0, .int .u8 0, .int .u8 0, .int .u8 0, .int .u8 0, .int .u8 0, .int .u8 0, .int .u8 0, .int .u8 0, .int .u8 0, .int .u8 0, .int .u8 0, .int .u8 0, .int .u8 0, .int .u8 0, .int .u8 0, .int .u8 0, .int .u8 0, .int .u8 0, .int .u8 0, .int .u8 0, .int .u8 0, .int .u8 0, .int .u8 0, .int .u8 0, .int .u8 0, .int .u8 0, .int .u8 0, .int .u8 0, .int .u8 0, .int .u8 0, .int .u8 0, .int .u8 0, .int .u8 0, .int .u8 0, .int .u8 0, .int .u8 0, .int .u8 0, .int .u8 0, .int .u8 0, .int .u8 0, .int .u8 0, .int .u8 0, .int .u8 0, .int .u8 0, .int .u8 0, .int .u8 0, .int .u8 0, .int .u8 0, .int .u8 0, .int .u8 0, .int .u8 0, .int .u8 0, .int .u8 0, .int .u8 0, .int .u8 0, .int .u8 0, .int .u8 0, .int .u8 0, .int .u8 0, .int .u8 0, .int .u32 0, .int .u32 0, .int .u8 0, .int .u8 0, .slice none 0 0, .int .u16 0, .int .u8 0, .int .u8 0, .int .u8 0, .int .u8 0, .int .u8 0, .int .u8 0, .int .u8 0, .int .u8 0, .int .u8 0, .int .u8 0, .int .u8 0, .int .u8 0, .int .u8 0, .int .u8 0, .int .u8 0, .int .u8 0, .int .u8 0, .int .u8 0, .int .u8 0, .int .u8 0, .int .u8 0, .int .u8 0, .int .u8 0, .int .u8 0, .int .u8 0, .int .u8 0, .int .u8 0, .int .u8 0, .int .u8 0, .int .u8 0, .int .u8 0, .int .u8 0], .slice none 0 0] 8 Z (World.shaped_of_RefB (by kernel_rfl) (by kernel_rfl)) (by kernel_rfl) (by kernel_rfl) (by kernel_rfl) (Zx os _)) ?_
 intro W base args ds gs before hval0 hW _ _ hL0 _
 have aix : C8 W := Zy hL0
 have hval : ∀ (j : Nat) t v, Tryz.f3.params[j]? = some t -> args[j]? = some v -> Value.okWide Tryz.prog W .any base t v := hval0
 have hW' := hW
 obtain ⟨p, q, hA0, hV, rfl, hfz, hnd⟩ := hW
 have hA : DataW.TrodAll enc Tryz.prog W 0 (fun _ => true) true Tryz.f3.params.toList args.toList ds p := hA0
 rw [Tryz.params3] at hA hval
 obtain ⟨v0, vs0, d0, ds0, p0, q0, hargs, rfl, rfl, h0, r0⟩ := trodAll_cons hA
 obtain ⟨v1, vs1, d1, ds1, p1, q1, rfl, rfl, rfl, h1, r1⟩ := trodAll_cons r0
 obtain ⟨rfl, rfl, rfl⟩ := trodAll_nil r1
 obtain rfl : args = #[v0, v1] := by cases args; simp_all
 obtain ⟨rfl, rfl⟩ := trodVars_none hV
 have k0 := h0
 have lt0 : ∀ x ∈ p0, x.block < W.heap.size := by obtain ⟨m, hm⟩ := k0; exact DataW.trod_lt m _ _ _ hm
 have k1 := h1
 have lt1 : ∀ x ∈ p1, x.block < W.heap.size := by obtain ⟨m, hm⟩ := k1; exact DataW.trod_lt m _ _ _ hm
 obtain ⟨x0, rfl, g0⟩ := Vn (hval 0 29 v0 Z Z) h0
 obtain ⟨A1, n1, c1, x1, rfl, ⟨s1, g1⟩, b1, m1⟩ := QM (hval 1 30 v1 Z Z) h1
 clear hA0 hval0
 refine (Jc x0 g0.1 W s1 g1 aix).mono fun e W' ⟨he, bel⟩ => ?_
 subst he
 exact ⟨_, rfl, _, _, _, [], _, [], hW', trodAll_mk1 (shut_bool Tryz.underlying4 _), (trodAll_cons_mk (Below.trod O4 (by kernel_rfl) (of_decide_eq_true (by kernel_rfl)) k0 bel lt0) (trodAll_cons_mk (Below.trod O4 (by kernel_rfl) (of_decide_eq_true (by kernel_rfl)) k1 bel lt1) trodAll_mk0)), rfl, bel.frame _, fun h => by cases h⟩
set_option maxRecDepth 100000 in
theorem FJ : (Rows.ledgerSidesRow.wf (OpenSpec.ofChange Rows.ledgerSidesSpec)) = true := by kernel_rfl
set_option maxRecDepth 100000 in
theorem FK : (laidOutB Tryz.prog) = true := by kernel_rfl
set_option maxRecDepth 100000 in
theorem FL : (mapsRowed Tryz.prog) = true := by kernel_rfl
set_option maxRecDepth 100000 in
theorem FM : (Tryz.f3.params.all (Tryz.prog.readableRec ·)) = true := by kernel_rfl
set_option maxRecDepth 100000 in
theorem FN : (namedTie Tryz.prog Rows.ledgerSidesRow.named Rows.ledgerSidesSpec.vars) = true := by kernel_rfl
set_option maxRecDepth 100000 in
theorem FO : ((Rows.ledgerSidesRow.stops == [])) = true := by kernel_rfl
set_option maxRecDepth 100000 in
theorem FP : ((Tryz.prog.stops == [])) = true := by kernel_rfl
set_option maxRecDepth 100000 in
theorem FQ : ((Rows.ledgerSidesRow.knobs == [])) = true := by kernel_rfl
set_option maxRecDepth 100000 in
theorem FR : ((Tryz.prog.stopKnobs == [])) = true := by kernel_rfl
set_option maxRecDepth 100000 in
theorem FT : ((Rows.ledgerSidesRow.inPlace == Tryz.prog.inPlace 3)) = true := by kernel_rfl
set_option maxRecDepth 100000 in
theorem Ej : ((Rows.ledgerSidesRow.unfollowed == Tryz.prog.unfollowed 3)) = true := by kernel_rfl
set_option maxRecDepth 100000 in
theorem Em : ((Rows.ledgerSidesRow.recurses == Tryz.prog.recurses 3)) = true := by kernel_rfl
set_option maxRecDepth 100000 in
theorem Eo : ((Rows.ledgerSidesRow.named == Tryz.prog.varsNamed 3)) = true := by kernel_rfl
set_option maxRecDepth 100000 in
theorem Ep : ((Rows.ledgerSidesRow.maps == (Tryz.f3.params.toList ++ Rows.ledgerSidesSpec.plain.varTypes Tryz.prog).any (Tryz.prog.mapsRec ·))) = true := by kernel_rfl
set_option maxRecDepth 100000 in
theorem Er : ((Rows.ledgerSidesRow.ifaces == (Tryz.f3.params.toList ++ Rows.ledgerSidesSpec.plain.varTypes Tryz.prog).any (Tryz.prog.ifacesRec ·))) = true := by kernel_rfl
set_option maxRecDepth 100000 in
theorem Es : ((Rows.ledgerSidesRow.mapsOut == Tryz.prog.mapsAmong Tryz.f3.resultTypes.toList)) = true := by kernel_rfl
set_option maxRecDepth 100000 in
theorem Et : ((Rows.ledgerSidesRow.loops == (Tryz.f3.params.toList ++ Rows.ledgerSidesSpec.plain.varTypes Tryz.prog).any (Tryz.prog.loopsFrom ·))) = true := by kernel_rfl
set_option maxRecDepth 100000 in
theorem Eu : ((Rows.ledgerSidesRow.wideKeys == (Tryz.f3.params.toList ++ Rows.ledgerSidesSpec.plain.varTypes Tryz.prog ++ Tryz.f3.resultTypes.toList).any (Tryz.prog.wideKeysFrom ·))) = true := by kernel_rfl
set_option maxRecDepth 100000 in
theorem Ev : (Rows.ledgerSidesSpec.vars.all (Tryz.prog.varReadable ·)) = true := by kernel_rfl
set_option maxRecDepth 100000 in
theorem Ew : (Tryz.f3.resultTypes.all (fun t => Tryz.prog.readableRec t && decide (t < Tryz.prog.types.size))) = true := by kernel_rfl
set_option maxRecDepth 100000 in
theorem Ey : ((Rows.ledgerSidesRow.ifacesOut == Tryz.f3.resultTypes.toList.any (Tryz.prog.ifacesRec ·))) = true := by kernel_rfl
set_option maxRecDepth 100000 in
theorem Ez : ((Rows.ledgerSidesRow.loopsOut == Tryz.f3.resultTypes.toList.any (Tryz.prog.loopsFrom ·))) = true := by kernel_rfl
set_option maxRecDepth 100000 in
theorem EA : ((Rows.ledgerSidesRow.plainKeys == Tryz.prog.plainKeys)) = true := by kernel_rfl
set_option maxRecDepth 100000 in
theorem EB : (Rows.ledgerSidesRow.shortTexts.isNone) = true := by kernel_rfl
set_option maxRecDepth 100000 in
theorem EC : (Tryz.prog.stopsHeard) = true := by kernel_rfl
set_option maxRecDepth 100000 in
theorem ED : (Tryz.prog.mayEnter) = true := by kernel_rfl
set_option maxRecDepth 100000 in
theorem EE : ((Rows.ledgerSidesRow.lifted == Tryz.prog.liftsFinal)) = true := by kernel_rfl
set_option maxRecDepth 100000 in
theorem EF : ((Tryz.prog.make == some Rows.ledgerSidesRow.make)) = true := by kernel_rfl
set_option maxRecDepth 100000 in
theorem EG : ((Rows.ledgerSidesRow.kinds == [])) = true := by kernel_rfl
set_option maxRecDepth 100000 in
theorem EH : ((Rows.ledgerSidesRow.pinned == Rows.ledgerSidesRow.pinnedBy)) = true := by kernel_rfl
set_option maxRecDepth 100000 in
theorem EI : ((Rows.ledgerSidesRow.veiled == (Tryz.f3.params.toList ++ Rows.ledgerSidesSpec.plain.varTypes Tryz.prog ++ Tryz.f3.resultTypes.toList).any (Tryz.prog.veiledRec ·))) = true := by kernel_rfl
set_option maxRecDepth 100000 in
theorem EJ : (Rows.ledgerSidesRow.veiledFits Tryz.prog Tryz.f3.params.toList (Tryz.f3.params.toList ++ Rows.ledgerSidesSpec.plain.varTypes Tryz.prog ++ Tryz.f3.resultTypes.toList)) = true := by kernel_rfl
theorem jr {a b:Bool} (ha : a = true) (hb : b = true) : (a && b) = true := by rw [ha, hb]; rfl
set_option maxRecDepth 100000 in
theorem Bv : joinedFacts Tryz.prog 3 Tryz.f3 Rows.ledgerSidesSpec Rows.ledgerSidesRow = true :=
 jr (jr (jr (jr (jr (jr (jr (jr (jr (jr (jr (jr (jr (jr (jr (jr (jr (jr (jr (jr (jr (jr (jr (jr (jr (jr (jr (jr (jr (jr (jr (FJ) FK) FL) FM) FN) FO) FP) FQ) FR) FT) Ej) Em) Eo) Ep) Er) Es) Et) Eu) Ev) Ew) Ey) Ez) EA) EB) EC) ED) EE) EF) (by rw [if_pos (show Rows.ledgerSidesRow.domain.isEmpty = true by kernel_rfl)]; exact EG)) EH) EI) EJ
theorem vS : Tryz.prog.funcNamed "corsned/corsnedlaw46.LedgerSides" = some 3 := by kernel_rfl
theorem EK : Rows.ledgerSidesRow.holds Tryz.pinned (OpenSpec.ofChange Rows.ledgerSidesSpec) :=
 OpenClaim.holds_of_wide 3 Tryz.f3 Z Z Z Z Z Z Z ⟨rfl, rfl, rfl, rfl, rfl⟩ Z Z Z Z Z vS Tryz.func3 Bv
  (of_decide_eq_true (by kernel_rfl)) (by unfold Func.isWrapper; first | (rw [if_pos (by decide +kernel)]; kernel_rfl) | (rw [if_neg (by decide +kernel)]; exact ⟨rfl, rfl⟩))
  (fun os started H enc _ => Bu os started H enc)
theorem FU : Rows.ledgerSidesRow.wfByText (OpenSpec.ofChange Rows.ledgerSidesSpec) = true := by kernel_rfl
theorem Dj : true = Tryz.prog.looks [] := by kernel_rfl
theorem EL : false = Rows.ledgerSidesRow.goesBy Tryz.prog := by kernel_rfl
theorem Dk : ([29, 30].all fun u => !Tryz.prog.wantsStandIn u) = true := by kernel_rfl
theorem LedgerSides_holds : Rows.LedgerSidesCardSaid :=
 Claim7.holds_tied_plain_at .later [] [.data, .data] true (true, "6c0968ad68fe81de16560fff7f156f5234d9bb3871227829551bda03b1e9787b") true
  EK (fun _ h => by cases h) FU (fun _ h => by cases h) ledgerSides_row_tie rfl ⟨rfl, rfl⟩ (by kernel_rfl) rfl
  (fun f fn hf hfn => by
   obtain rfl : f = 3 := Option.some.inj (vS.symm.trans hf) |>.symm
   obtain rfl : fn = Tryz.f3 := (Option.some.inj (Tryz.func3.symm.trans hfn)).symm
   exact ⟨Dj, fun j t ht => by
    rw [Tryz.params3] at ht
    have hm : t ∈ [29, 30] := by simpa using Array.mem_of_getElem? ht
    have hall := Dk
    exact (show Tryz.prog.wantsStandIn t = false by simpa using List.all_eq_true.1 hall t hm)⟩)
  EL
end Go.Proofs.YtkpmaajniagncaaGreatDoor
