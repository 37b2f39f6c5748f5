/- LedgerSplices: for every input the law answers true and leaves its arguments as they were. -/
import Derived.Test.YtcaehidaejhdfaaGreatLedgerSplicesQ
import Derived.Test.YtcaehidaejhdfaaGreatRows
set_option linter.unusedVariables false
set_option linter.unusedSimpArgs false
namespace Go.Proofs.YtcaehidaejhdfaaGreat
open Go Go.Sx Go.ChangeShapes Go.WideShapes Go.ChangeAt Go.RowKit
theorem Xb : ownKnob Tryz.prog.godebug = none := by kernel_rfl
theorem Kb : laidOutB Tryz.prog = true := by kernel_rfl

set_option maxRecDepth 100000 in
theorem yt (os : Os) (started : os.Started) (H : Type) (enc : TypeId × Value -> H) :
    ReturnsInHanded {} Tryz.checked os 3 .any (Rows.ledgerSplicesSpec.pre6 enc Tryz.prog Tryz.f3 Rows.ledgerSplicesRow.domain false) (Rows.ledgerSplicesSpec.post enc Tryz.prog Tryz.f3 false true false false) := by
  refine returnsInHanded_of_change (C := Tryz.checked) Xb started (by kernel_rfl) Tryz.func3
    (ChangeSpec.witness6 (enc := enc) (C := Tryz.checked) false ⟨#[], #[.agg #[.int .u8 0, .int .u8 0, .int .u8 0, .int .u8 0, .int .u8 0, .int .u8 0, .int .u8 0, .int .u8 0, .int .u8 0, .int .u8 0, .int .u8 0, .int .u8 0, .int .u8 0, .int .u8 0, .int .u8 0, .int .u8 0, .int .u8 0, .int .u8 0, .int .u8 0, .int .u8 0, .int .u8 0, .int .u8 0, .int .u8 0, .int .u8 0, .int .u8 0, .int .u8 0, .int .u8 0, .int .u8 0, .int .u8 0, .int .u8 0, .int .u8 0, .int .u8 0, .int .u8 0, .int .u8 0, .int .u8 0, .int .u8 0, .int .u8 0, .int .u8 0, .int .u8 0, .int .u8 0, .int .u8 0, .int .u8 0, .int .u8 0, .int .u8 0, .int .u8 0, .int .u8 0, .int .u8 0, .int .u8 0, .int .u8 0, .int .u8 0, .int .u8 0, .int .u8 0, .int .u8 0, .int .u8 0, .int .u8 0, .int .u8 0, .int .u8 0, .int .u8 0, .int .u8 0, .int .u8 0, .int .u8 0, .int .u8 0, .int .u8 0, .int .u8 0, .int .u32 0, .int .u32 0, .int .u8 0, .int .u8 0, .slice none 0 0, .int .u16 0, .int .u8 0, .int .u8 0, .int .u8 0, .int .u8 0, .int .u8 0, .int .u8 0, .int .u8 0, .int .u8 0, .int .u8 0, .int .u8 0, .int .u8 0, .int .u8 0, .int .u8 0, .int .u8 0, .int .u8 0, .int .u8 0, .int .u8 0, .int .u8 0, .int .u8 0, .int .u8 0, .int .u8 0, .int .u8 0, .int .u8 0, .int .u8 0, .int .u8 0, .int .u8 0, .int .u8 0, .int .u8 0, .int .u8 0, .int .u8 0, .int .u8 0, .int .u8 0], .agg #[.slice none 0 0, .slice none 0 0, .int .i64 0, .slice none 0 0, .slice none 0 0, .int .i64 0]], []⟩ 8 (by kernel_rfl) (by kernel_rfl) (by kernel_rfl) (by kernel_rfl)) ?_
  intro W base args ds gs before hval0 hW hcnd _
  have hval : ∀ (j : Nat) t v, Tryz.f3.params[j]? = some t -> args[j]? = some v -> Value.okWide Tryz.prog W .any base t v := hval0
  have hW' := hW
  obtain ⟨p, q, hA0, hV, rfl, hfz, hnd⟩ := hW
  have hA : DataW.TrodAll enc Tryz.prog W 0 (fun _ => true) true Tryz.f3.params.toList args.toList ds p := hA0
  rw [Tryz.params3] at hA hval
  obtain ⟨v0, vs0, d0, ds0, p0, q0, hargs, rfl, rfl, h0, r0⟩ := trodAll_cons hA
  obtain ⟨v1, vs1, d1, ds1, p1, q1, rfl, rfl, rfl, h1, r1⟩ := trodAll_cons r0
  obtain ⟨rfl, rfl, rfl⟩ := trodAll_nil r1
  obtain rfl : args = #[v0, v1] := by cases args; simp_all
  obtain ⟨rfl, rfl⟩ := trodVars_none hV
  have k0 := h0
  have lt0 : ∀ x ∈ p0, x.block < W.heap.size := by obtain ⟨m, hm⟩ := k0; exact DataW.trod_lt m _ _ _ hm
  have k1 := h1
  have lt1 : ∀ x ∈ p1, x.block < W.heap.size := by obtain ⟨m, hm⟩ := k1; exact DataW.trod_lt m _ _ _ hm
  obtain ⟨x0, rfl, g0⟩ := OM (hval 0 29 v0 rfl rfl) h0
  obtain ⟨x1, rfl, g1⟩ := Ka (hval 1 34 v1 rfl rfl) h1
  clear hA0 hval0
  refine (CL x0 g0 x1 g1).mono fun e W' ⟨he, bel⟩ => ?_
  subst he
  exact ⟨_, rfl, _, _, _, [], _, [], hW', trodAll_mk1 (shut_bool Tryz.underlying4 _), (trodAll_cons_mk (Below.trod Kb (by kernel_rfl) (of_decide_eq_true (by kernel_rfl)) k0 bel lt0) (trodAll_cons_mk (Below.trod Kb (by kernel_rfl) (of_decide_eq_true (by kernel_rfl)) k1 bel lt1) trodAll_mk0)), rfl, bel.frame _, fun h => by cases h⟩

set_option maxRecDepth 100000 in
theorem BJ : (Rows.ledgerSplicesRow.wf (OpenSpec.ofChange Rows.ledgerSplicesSpec)) = true := by kernel_rfl
set_option maxRecDepth 100000 in
theorem BK : (laidOutB Tryz.prog) = true := by kernel_rfl
set_option maxRecDepth 100000 in
theorem BL : (mapsRowed Tryz.prog) = true := by kernel_rfl
set_option maxRecDepth 100000 in
theorem BN : (Tryz.f3.params.all (Tryz.prog.readableRec ·)) = true := by kernel_rfl
set_option maxRecDepth 100000 in
theorem BO : (namedTie Tryz.prog Rows.ledgerSplicesRow.named Rows.ledgerSplicesSpec.vars) = true := by kernel_rfl
set_option maxRecDepth 100000 in
theorem BP : ((Rows.ledgerSplicesRow.stops == [])) = true := by kernel_rfl
set_option maxRecDepth 100000 in
theorem BQ : ((Tryz.prog.stops == [])) = true := by kernel_rfl
set_option maxRecDepth 100000 in
theorem BR : ((Rows.ledgerSplicesRow.knobs == [])) = true := by kernel_rfl
set_option maxRecDepth 100000 in
theorem BS : ((Tryz.prog.stopKnobs == [])) = true := by kernel_rfl
set_option maxRecDepth 100000 in
theorem BU : ((Rows.ledgerSplicesRow.inPlace == Tryz.prog.inPlace 3)) = true := by kernel_rfl
set_option maxRecDepth 100000 in
theorem zD : ((Rows.ledgerSplicesRow.unfollowed == Tryz.prog.unfollowed 3)) = true := by kernel_rfl
set_option maxRecDepth 100000 in
theorem zF : ((Rows.ledgerSplicesRow.recurses == Tryz.prog.recurses 3)) = true := by kernel_rfl
set_option maxRecDepth 100000 in
theorem zG : ((Rows.ledgerSplicesRow.named == Tryz.prog.varsNamed 3)) = true := by kernel_rfl
set_option maxRecDepth 100000 in
theorem zH : ((Rows.ledgerSplicesRow.maps == (Tryz.f3.params.toList ++ Rows.ledgerSplicesSpec.plain.varTypes Tryz.prog).any (Tryz.prog.mapsRec ·))) = true := by kernel_rfl
set_option maxRecDepth 100000 in
theorem zI : ((Rows.ledgerSplicesRow.ifaces == (Tryz.f3.params.toList ++ Rows.ledgerSplicesSpec.plain.varTypes Tryz.prog).any (Tryz.prog.ifacesRec ·))) = true := by kernel_rfl
set_option maxRecDepth 100000 in
theorem zJ : ((Rows.ledgerSplicesRow.mapsOut == Tryz.prog.mapsAmong Tryz.f3.resultTypes.toList)) = true := by kernel_rfl
set_option maxRecDepth 100000 in
theorem zK : ((Rows.ledgerSplicesRow.loops == (Tryz.f3.params.toList ++ Rows.ledgerSplicesSpec.plain.varTypes Tryz.prog).any (Tryz.prog.loopsFrom ·))) = true := by kernel_rfl
set_option maxRecDepth 100000 in
theorem zL : ((Rows.ledgerSplicesRow.wideKeys == (Tryz.f3.params.toList ++ Rows.ledgerSplicesSpec.plain.varTypes Tryz.prog ++ Tryz.f3.resultTypes.toList).any (Tryz.prog.wideKeysFrom ·))) = true := by kernel_rfl
set_option maxRecDepth 100000 in
theorem zM : (Rows.ledgerSplicesSpec.vars.all (Tryz.prog.varReadable ·)) = true := by kernel_rfl
set_option maxRecDepth 100000 in
theorem zN : (Tryz.f3.resultTypes.all (fun t => Tryz.prog.readableRec t && decide (t < Tryz.prog.types.size))) = true := by kernel_rfl
set_option maxRecDepth 100000 in
theorem zO : ((Rows.ledgerSplicesRow.ifacesOut == Tryz.f3.resultTypes.toList.any (Tryz.prog.ifacesRec ·))) = true := by kernel_rfl
set_option maxRecDepth 100000 in
theorem zP : ((Rows.ledgerSplicesRow.loopsOut == Tryz.f3.resultTypes.toList.any (Tryz.prog.loopsFrom ·))) = true := by kernel_rfl
set_option maxRecDepth 100000 in
theorem zQ : ((Rows.ledgerSplicesRow.plainKeys == Tryz.prog.plainKeys)) = true := by kernel_rfl
set_option maxRecDepth 100000 in
theorem zR : (Rows.ledgerSplicesRow.shortTexts.isNone) = true := by kernel_rfl
set_option maxRecDepth 100000 in
theorem zS : (Tryz.prog.stopsHeard) = true := by kernel_rfl
set_option maxRecDepth 100000 in
theorem zT : (Tryz.prog.mayEnter) = true := by kernel_rfl
set_option maxRecDepth 100000 in
theorem zU : ((Rows.ledgerSplicesRow.lifted == Tryz.prog.liftsFinal)) = true := by kernel_rfl
set_option maxRecDepth 100000 in
theorem zV : ((Tryz.prog.make == some Rows.ledgerSplicesRow.make)) = true := by kernel_rfl
set_option maxRecDepth 100000 in
theorem zW : ((Rows.ledgerSplicesRow.kinds == [])) = true := by kernel_rfl
set_option maxRecDepth 100000 in
theorem zX : ((Rows.ledgerSplicesRow.pinned == Rows.ledgerSplicesRow.pinnedBy)) = true := by kernel_rfl
set_option maxRecDepth 100000 in
theorem zY : ((Rows.ledgerSplicesRow.veiled == (Tryz.f3.params.toList ++ Rows.ledgerSplicesSpec.plain.varTypes Tryz.prog ++ Tryz.f3.resultTypes.toList).any (Tryz.prog.veiledRec ·))) = true := by kernel_rfl
set_option maxRecDepth 100000 in
theorem zZ : (Rows.ledgerSplicesRow.veiledFits Tryz.prog Tryz.f3.params.toList (Tryz.f3.params.toList ++ Rows.ledgerSplicesSpec.plain.varTypes Tryz.prog ++ Tryz.f3.resultTypes.toList)) = true := by kernel_rfl
theorem kR {a b : Bool} (ha : a = true) (hb : b = true) : (a && b) = true := by rw [ha, hb]; rfl
set_option maxRecDepth 100000 in
theorem yu : joinedFacts Tryz.prog 3 Tryz.f3 Rows.ledgerSplicesSpec Rows.ledgerSplicesRow = true :=
  kR (kR (kR (kR (kR (kR (kR (kR (kR (kR (kR (kR (kR (kR (kR (kR (kR (kR (kR (kR (kR (kR (kR (kR (kR (kR (kR (kR (kR (kR (kR (BJ) BK) BL) BN) BO) BP) BQ) BR) BS) BU) zD) zF) zG) zH) zI) zJ) zK) zL) zM) zN) zO) zP) zQ) zR) zS) zT) zU) zV) (by rw [if_pos (show Rows.ledgerSplicesRow.domain.isEmpty = true by kernel_rfl)]; exact zW)) zX) zY) zZ
theorem yV : Tryz.prog.funcNamed "corsned/corsnedlaw46.LedgerSplices" = some 3 := by kernel_rfl
theorem z8 : Rows.ledgerSplicesRow.holds Tryz.pinned (OpenSpec.ofChange Rows.ledgerSplicesSpec) :=
  OpenClaim.holds_of_wide 3 Tryz.f3 rfl rfl rfl rfl rfl rfl rfl ⟨rfl, rfl, rfl, rfl, rfl⟩ rfl rfl rfl rfl rfl yV Tryz.func3 yu
    (of_decide_eq_true (by kernel_rfl)) (by unfold Func.isWrapper; first | (rw [if_pos (by decide +kernel)]; kernel_rfl) | (rw [if_neg (by decide +kernel)]; exact ⟨rfl, rfl⟩))
    (fun os started H enc _ => yt os started H enc)

theorem LedgerSplices_holds : Rows.LedgerSplicesSaid := z8
end Go.Proofs.YtcaehidaejhdfaaGreat

