/- LedgerSheets: for every input the law answers true and leaves its arguments as they were. -/
import Derived.Test.YtgpaekbdbpkogaaGreatLedgerSheetsS
import Derived.Test.YtgpaekbdbpkogaaGreatRows
set_option linter.unusedVariables false
set_option linter.unusedSimpArgs false
namespace Go.Proofs.YtgpaekbdbpkogaaGreat
open Go Go.Sx Go.ChangeShapes Go.WideShapes Go.ChangeAt Go.RowKit
theorem own_ : ownKnob Tryz.prog.godebug = none := by kernel_rfl
theorem laidOut_ : laidOutB Tryz.prog = true := by kernel_rfl

set_option maxRecDepth 100000 in
theorem ledgerSheets_lifted (os : Os) (started : os.Started) (H : Type) (enc : TypeId × Value -> H) :
    ReturnsInHanded {} Tryz.checked os 3 .any (Rows.ledgerSheetsSpec.pre6 enc Tryz.prog Tryz.f3 Rows.ledgerSheetsRow.domain false) (Rows.ledgerSheetsSpec.post enc Tryz.prog Tryz.f3 false true false false) := by
  refine returnsInHanded_of_change (C := Tryz.checked) own_ started (by kernel_rfl) Tryz.func3
    (ChangeSpec.witness6 (enc := enc) (C := Tryz.checked) false ⟨#[], #[.agg #[.int .u8 0, .int .u8 0, .int .u8 0, .int .u8 0, .int .u8 0, .int .u8 0, .int .u8 0, .int .u8 0, .int .u8 0, .int .u8 0, .int .u8 0, .int .u8 0, .int .u8 0, .int .u8 0, .int .u8 0, .int .u8 0, .int .u8 0, .int .u8 0, .int .u8 0, .int .u8 0, .int .u8 0, .int .u8 0, .int .u8 0, .int .u8 0, .int .u8 0, .int .u8 0, .int .u8 0, .int .u8 0, .int .u8 0, .int .u8 0, .int .u8 0, .int .u8 0, .int .u8 0, .int .u8 0, .int .u8 0, .int .u8 0, .int .u8 0, .int .u8 0, .int .u8 0, .int .u8 0, .int .u8 0, .int .u8 0, .int .u8 0, .int .u8 0, .int .u8 0, .int .u8 0, .int .u8 0, .int .u8 0, .int .u8 0, .int .u8 0, .int .u8 0, .int .u8 0, .int .u8 0, .int .u8 0, .int .u8 0, .int .u8 0, .int .u8 0, .int .u8 0, .int .u8 0, .int .u8 0, .int .u8 0, .int .u8 0, .int .u8 0, .int .u8 0, .int .u32 0, .int .u32 0, .int .u8 0, .int .u8 0, .slice none 0 0, .int .u16 0, .int .u8 0, .int .u8 0, .int .u8 0, .int .u8 0, .int .u8 0, .int .u8 0, .int .u8 0, .int .u8 0, .int .u8 0, .int .u8 0, .int .u8 0, .int .u8 0, .int .u8 0, .int .u8 0, .int .u8 0, .int .u8 0, .int .u8 0, .int .u8 0, .int .u8 0, .int .u8 0, .int .u8 0, .int .u8 0, .int .u8 0, .int .u8 0, .int .u8 0, .int .u8 0, .int .u8 0, .int .u8 0, .int .u8 0, .int .u8 0, .int .u8 0, .int .u8 0], .slice none 0 0], []⟩ 8 (by kernel_rfl) (by kernel_rfl) (by kernel_rfl) (by kernel_rfl)) ?_
  intro W base args ds gs before hval0 hW hcnd _
  have hval : ∀ (j : Nat) t v, Tryz.f3.params[j]? = some t -> args[j]? = some v -> Value.okWide Tryz.prog W .any base t v := hval0
  have hW' := hW
  obtain ⟨p, q, hA0, hV, rfl, hfz, hnd⟩ := hW
  have hA : DataW.TrodAll enc Tryz.prog W 0 (fun _ => true) true Tryz.f3.params.toList args.toList ds p := hA0
  rw [Tryz.params3] at hA hval
  obtain ⟨v0, vs0, d0, ds0, p0, q0, hargs, rfl, rfl, h0, r0⟩ := trodAll_cons hA
  obtain ⟨v1, vs1, d1, ds1, p1, q1, rfl, rfl, rfl, h1, r1⟩ := trodAll_cons r0
  obtain ⟨rfl, rfl, rfl⟩ := trodAll_nil r1
  obtain rfl : args = #[v0, v1] := by cases args; simp_all
  obtain ⟨rfl, rfl⟩ := trodVars_none hV
  have k0 := h0
  have lt0 : ∀ x ∈ p0, x.block < W.heap.size := by obtain ⟨m, hm⟩ := k0; exact DataW.trod_lt m _ _ _ hm
  have k1 := h1
  have lt1 : ∀ x ∈ p1, x.block < W.heap.size := by obtain ⟨m, hm⟩ := k1; exact DataW.trod_lt m _ _ _ hm
  obtain ⟨x0, rfl, g0⟩ := open_play (hval 0 29 v0 rfl rfl) h0
  obtain ⟨A1, n1, c1, x1, rfl, s1, b1, m1⟩ := open_sb Tryz.underlying30 Tryz.underlying5 (by kernel_rfl) (hval 1 30 v1 rfl rfl) h1
  clear hA0 hval0
  refine ((g0.2.elim fun os ho => LedgerSheets_ok x0 g0.1 ho.2 rfl W ho.1 (byte_vecO s1))).mono fun e W' ⟨he, bel⟩ => ?_
  subst he
  exact ⟨_, rfl, _, _, _, [], _, [], hW', trodAll_mk1 (shut_bool Tryz.underlying4 _), (trodAll_cons_mk (Below.trod laidOut_ (by kernel_rfl) (of_decide_eq_true (by kernel_rfl)) k0 bel lt0) (trodAll_cons_mk (Below.trod laidOut_ (by kernel_rfl) (of_decide_eq_true (by kernel_rfl)) k1 bel lt1) trodAll_mk0)), rfl, bel.frame _, fun h => by cases h⟩

set_option maxRecDepth 100000 in
theorem ledgerSheets_jf0 : (Rows.ledgerSheetsRow.wf (OpenSpec.ofChange Rows.ledgerSheetsSpec)) = true := by kernel_rfl
set_option maxRecDepth 100000 in
theorem ledgerSheets_jf1 : (laidOutB Tryz.prog) = true := by kernel_rfl
set_option maxRecDepth 100000 in
theorem ledgerSheets_jf2 : (mapsRowed Tryz.prog) = true := by kernel_rfl
set_option maxRecDepth 100000 in
theorem ledgerSheets_jf3 : (Tryz.f3.params.all (Tryz.prog.readableRec ·)) = true := by kernel_rfl
set_option maxRecDepth 100000 in
theorem ledgerSheets_jf4 : (namedTie Tryz.prog Rows.ledgerSheetsRow.named Rows.ledgerSheetsSpec.vars) = true := by kernel_rfl
set_option maxRecDepth 100000 in
theorem ledgerSheets_jf5 : ((Rows.ledgerSheetsRow.stops == [])) = true := by kernel_rfl
set_option maxRecDepth 100000 in
theorem ledgerSheets_jf6 : ((Tryz.prog.stops == [])) = true := by kernel_rfl
set_option maxRecDepth 100000 in
theorem ledgerSheets_jf7 : ((Rows.ledgerSheetsRow.knobs == [])) = true := by kernel_rfl
set_option maxRecDepth 100000 in
theorem ledgerSheets_jf8 : ((Tryz.prog.stopKnobs == [])) = true := by kernel_rfl
set_option maxRecDepth 100000 in
theorem ledgerSheets_jf9 : ((Rows.ledgerSheetsRow.inPlace == Tryz.prog.inPlace 3)) = true := by kernel_rfl
set_option maxRecDepth 100000 in
theorem ledgerSheets_jf10 : ((Rows.ledgerSheetsRow.unfollowed == Tryz.prog.unfollowed 3)) = true := by kernel_rfl
set_option maxRecDepth 100000 in
theorem ledgerSheets_jf11 : ((Rows.ledgerSheetsRow.recurses == Tryz.prog.recurses 3)) = true := by kernel_rfl
set_option maxRecDepth 100000 in
theorem ledgerSheets_jf12 : ((Rows.ledgerSheetsRow.named == Tryz.prog.varsNamed 3)) = true := by kernel_rfl
set_option maxRecDepth 100000 in
theorem ledgerSheets_jf13 : ((Rows.ledgerSheetsRow.maps == (Tryz.f3.params.toList ++ Rows.ledgerSheetsSpec.plain.varTypes Tryz.prog).any (Tryz.prog.mapsRec ·))) = true := by kernel_rfl
set_option maxRecDepth 100000 in
theorem ledgerSheets_jf14 : ((Rows.ledgerSheetsRow.ifaces == (Tryz.f3.params.toList ++ Rows.ledgerSheetsSpec.plain.varTypes Tryz.prog).any (Tryz.prog.ifacesRec ·))) = true := by kernel_rfl
set_option maxRecDepth 100000 in
theorem ledgerSheets_jf15 : ((Rows.ledgerSheetsRow.mapsOut == Tryz.prog.mapsAmong Tryz.f3.resultTypes.toList)) = true := by kernel_rfl
set_option maxRecDepth 100000 in
theorem ledgerSheets_jf16 : ((Rows.ledgerSheetsRow.loops == (Tryz.f3.params.toList ++ Rows.ledgerSheetsSpec.plain.varTypes Tryz.prog).any (Tryz.prog.loopsFrom ·))) = true := by kernel_rfl
set_option maxRecDepth 100000 in
theorem ledgerSheets_jf17 : ((Rows.ledgerSheetsRow.wideKeys == (Tryz.f3.params.toList ++ Rows.ledgerSheetsSpec.plain.varTypes Tryz.prog ++ Tryz.f3.resultTypes.toList).any (Tryz.prog.wideKeysFrom ·))) = true := by kernel_rfl
set_option maxRecDepth 100000 in
theorem ledgerSheets_jf18 : (Rows.ledgerSheetsSpec.vars.all (Tryz.prog.varReadable ·)) = true := by kernel_rfl
set_option maxRecDepth 100000 in
theorem ledgerSheets_jf19 : (Tryz.f3.resultTypes.all (fun t => Tryz.prog.readableRec t && decide (t < Tryz.prog.types.size))) = true := by kernel_rfl
set_option maxRecDepth 100000 in
theorem ledgerSheets_jf20 : ((Rows.ledgerSheetsRow.ifacesOut == Tryz.f3.resultTypes.toList.any (Tryz.prog.ifacesRec ·))) = true := by kernel_rfl
set_option maxRecDepth 100000 in
theorem ledgerSheets_jf21 : ((Rows.ledgerSheetsRow.loopsOut == Tryz.f3.resultTypes.toList.any (Tryz.prog.loopsFrom ·))) = true := by kernel_rfl
set_option maxRecDepth 100000 in
theorem ledgerSheets_jf22 : ((Rows.ledgerSheetsRow.plainKeys == Tryz.prog.plainKeys)) = true := by kernel_rfl
set_option maxRecDepth 100000 in
theorem ledgerSheets_jf23 : (Rows.ledgerSheetsRow.shortTexts.isNone) = true := by kernel_rfl
set_option maxRecDepth 100000 in
theorem ledgerSheets_jf24 : (Tryz.prog.stopsHeard) = true := by kernel_rfl
set_option maxRecDepth 100000 in
theorem ledgerSheets_jf25 : (Tryz.prog.mayEnter) = true := by kernel_rfl
set_option maxRecDepth 100000 in
theorem ledgerSheets_jf26 : ((Rows.ledgerSheetsRow.lifted == Tryz.prog.liftsFinal)) = true := by kernel_rfl
set_option maxRecDepth 100000 in
theorem ledgerSheets_jf27 : ((Tryz.prog.make == some Rows.ledgerSheetsRow.make)) = true := by kernel_rfl
set_option maxRecDepth 100000 in
theorem ledgerSheets_jf28 : ((Rows.ledgerSheetsRow.kinds == [])) = true := by kernel_rfl
set_option maxRecDepth 100000 in
theorem ledgerSheets_jf29 : ((Rows.ledgerSheetsRow.pinned == Rows.ledgerSheetsRow.pinnedBy)) = true := by kernel_rfl
set_option maxRecDepth 100000 in
theorem ledgerSheets_jf30 : ((Rows.ledgerSheetsRow.veiled == (Tryz.f3.params.toList ++ Rows.ledgerSheetsSpec.plain.varTypes Tryz.prog ++ Tryz.f3.resultTypes.toList).any (Tryz.prog.veiledRec ·))) = true := by kernel_rfl
set_option maxRecDepth 100000 in
theorem ledgerSheets_jf31 : (Rows.ledgerSheetsRow.veiledFits Tryz.prog Tryz.f3.params.toList (Tryz.f3.params.toList ++ Rows.ledgerSheetsSpec.plain.varTypes Tryz.prog ++ Tryz.f3.resultTypes.toList)) = true := by kernel_rfl
theorem both_yes {a b : Bool} (ha : a = true) (hb : b = true) : (a && b) = true := by rw [ha, hb]; rfl
set_option maxRecDepth 100000 in
theorem ledgerSheets_joined : joinedFacts Tryz.prog 3 Tryz.f3 Rows.ledgerSheetsSpec Rows.ledgerSheetsRow = true :=
  both_yes (both_yes (both_yes (both_yes (both_yes (both_yes (both_yes (both_yes (both_yes (both_yes (both_yes (both_yes (both_yes (both_yes (both_yes (both_yes (both_yes (both_yes (both_yes (both_yes (both_yes (both_yes (both_yes (both_yes (both_yes (both_yes (both_yes (both_yes (both_yes (both_yes (both_yes (ledgerSheets_jf0) ledgerSheets_jf1) ledgerSheets_jf2) ledgerSheets_jf3) ledgerSheets_jf4) ledgerSheets_jf5) ledgerSheets_jf6) ledgerSheets_jf7) ledgerSheets_jf8) ledgerSheets_jf9) ledgerSheets_jf10) ledgerSheets_jf11) ledgerSheets_jf12) ledgerSheets_jf13) ledgerSheets_jf14) ledgerSheets_jf15) ledgerSheets_jf16) ledgerSheets_jf17) ledgerSheets_jf18) ledgerSheets_jf19) ledgerSheets_jf20) ledgerSheets_jf21) ledgerSheets_jf22) ledgerSheets_jf23) ledgerSheets_jf24) ledgerSheets_jf25) ledgerSheets_jf26) ledgerSheets_jf27) (by rw [if_pos (show Rows.ledgerSheetsRow.domain.isEmpty = true by kernel_rfl)]; exact ledgerSheets_jf28)) ledgerSheets_jf29) ledgerSheets_jf30) ledgerSheets_jf31
theorem ledgerSheets_named : Tryz.prog.funcNamed "corsned/corsnedlaw46.LedgerSheets" = some 3 := by kernel_rfl
theorem ledgerSheets_over : Rows.ledgerSheetsRow.holds Tryz.pinned (OpenSpec.ofChange Rows.ledgerSheetsSpec) :=
  OpenClaim.holds_of_wide 3 Tryz.f3 rfl rfl rfl rfl rfl rfl rfl ⟨rfl, rfl, rfl, rfl, rfl⟩ rfl rfl rfl rfl rfl ledgerSheets_named Tryz.func3 ledgerSheets_joined
    (of_decide_eq_true (by kernel_rfl)) (by unfold Func.isWrapper; first | (rw [if_pos (by decide +kernel)]; kernel_rfl) | (rw [if_neg (by decide +kernel)]; exact ⟨rfl, rfl⟩))
    (fun os started H enc _ => ledgerSheets_lifted os started H enc)

theorem LedgerSheets_holds : Rows.LedgerSheetsSaid := ledgerSheets_over
end Go.Proofs.YtgpaekbdbpkogaaGreat

