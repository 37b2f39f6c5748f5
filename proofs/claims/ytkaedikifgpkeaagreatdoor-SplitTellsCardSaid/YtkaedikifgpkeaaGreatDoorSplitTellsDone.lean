/- SplitTells: for every input the law answers true and leaves its arguments as they were. -/
import Derived.Test.YtkaedikifgpkeaaGreatDoorSplitTellsS
import Derived.Test.YtkaedikifgpkeaaGreatDoorRows
import Derived.Test.YtkaedikifgpkeaaGreatDoorTie
import Derived.Test.YtkaedikifgpkeaaGreatDoorCards
import Derived.LaidMore
import Derived.LaidLaws
import Derived.Stop.Joined
import Derived.Stop.LaidErr
import Derived.Lib.LaidTab
import Derived.MakeChecks
import Derived.LaidHandle
import Derived.SevenTiedAt
set_option linter.unusedVariables false
set_option linter.unusedSimpArgs false
namespace Go.Proofs.YtkaedikifgpkeaaGreatDoor
open Go Go.Sx Go.ChangeShapes Go.WideShapes Go.ChangeAt Go.RowKit
theorem V7 : ownKnob Tryz.prog.godebug = none := by kernel_rfl
theorem nU : laidOutB Tryz.prog = true := by kernel_rfl

theorem RZ (os : Os) (args : Array Value) : laidMetH Tryz.prog Rows.splitTellsRow.laid ((World.doorLaid Tryz.prog 400 os).forCall (fun _ _ => 0) ⟨#[], args, []⟩).memory :=
  laidMetH_of_parts3 (fuel := 8) (laidMet_of_run' 8 (by kernel_rfl) (by kernel_rfl)) (by kernel_rfl) (by kernel_rfl)
theorem R3 {W : World} (h : laidMetH Tryz.prog Rows.splitTellsRow.laid W) : Sa W := by
  rw [MakeChecks.laidMetH_plain _ _ _ (by kernel_rfl)] at h
  have h1 : laidMet Tryz.prog [("internal/strconv.uint64pow10", Rows.laid_internal_strconv_uint64pow10)] W := h.tail.tail
  exact Lib.tabIs_of_head (g := 2) (t := 252) (e := 24) (n := 20) (by kernel_rfl) (by kernel_rfl) Tryz.underlying252 Tryz.underlying24 (by kernel_rfl) (by kernel_rfl) h1

set_option maxRecDepth 100000 in
theorem yc (os : Os) (started : os.Started) (H : Type) (enc : TypeId × Value -> H) :
    ReturnsInHanded {} Tryz.checked os 3 .any (fun w args => (Rows.splitTellsSpec.pre enc Tryz.prog Tryz.f3 Rows.splitTellsRow.domain false w args /\ laidMetH Tryz.prog Rows.splitTellsRow.laid w) /\ sizedMet enc Tryz.prog Tryz.f3 (OpenSpec.ofChange Rows.splitTellsSpec) false w args) (Rows.splitTellsSpec.post enc Tryz.prog Tryz.f3 false true false false) := by
  refine returnsInHanded_of_change_and (C := Tryz.checked) (X := fun w _ => laidMetH Tryz.prog Rows.splitTellsRow.laid w) (fun _ _ _ hh h => h.of_heap hh) V7 started (by kernel_rfl) Tryz.func3
    (ChangeSpec.witness_shaped (enc := enc) (C := Tryz.checked) (os := os) (X := fun w _ => laidMetH Tryz.prog Rows.splitTellsRow.laid w) false (World.doorLaid Tryz.prog 400 os) #[.slice none 0 0, .slice none 0 0, .int .i64 0, .int .i64 0, .int .i64 0, .int .i64 0, .int .i64 0, .int .u64 0, .agg #[.int .u8 0, .int .u8 0, .int .u8 0, .int .u8 0, .int .u8 0, .int .u8 0, .int .u8 0, .int .u8 0, .int .u8 0, .int .u8 0, .int .u8 0, .int .u8 0, .int .u8 0, .int .u8 0, .int .u8 0, .int .u8 0, .int .u8 0, .int .u8 0, .int .u8 0, .int .u8 0, .int .u8 0, .int .u8 0, .int .u8 0, .int .u8 0, .int .u8 0, .int .u8 0, .int .u8 0, .int .u8 0, .int .u8 0, .int .u8 0, .int .u8 0, .int .u8 0]] 8 rfl (World.shaped_of_RefB (by kernel_rfl) (by kernel_rfl)) (by kernel_rfl) (by kernel_rfl) (by kernel_rfl) (RZ os _)) ?_
  intro W base args ds gs before hval0 hW _ _ hL0 _
  have abD : Sa W := R3 hL0
  have hval : ∀ (j : Nat) t v, Tryz.f3.params[j]? = some t -> args[j]? = some v -> Value.okWide Tryz.prog W .any base t v := hval0
  have hW' := hW
  obtain ⟨p, q, hA0, hV, rfl, hfz, hnd⟩ := hW
  have hA : DataW.TrodAll enc Tryz.prog W 0 (fun _ => true) true Tryz.f3.params.toList args.toList ds p := hA0
  rw [Tryz.params3] at hA hval
  obtain ⟨v0, vs0, d0, ds0, p0, q0, hargs, rfl, rfl, h0, r0⟩ := trodAll_cons hA
  obtain ⟨v1, vs1, d1, ds1, p1, q1, rfl, rfl, rfl, h1, r1⟩ := trodAll_cons r0
  obtain ⟨v2, vs2, d2, ds2, p2, q2, rfl, rfl, rfl, h2, r2⟩ := trodAll_cons r1
  obtain ⟨v3, vs3, d3, ds3, p3, q3, rfl, rfl, rfl, h3, r3⟩ := trodAll_cons r2
  obtain ⟨v4, vs4, d4, ds4, p4, q4, rfl, rfl, rfl, h4, r4⟩ := trodAll_cons r3
  obtain ⟨v5, vs5, d5, ds5, p5, q5, rfl, rfl, rfl, h5, r5⟩ := trodAll_cons r4
  obtain ⟨v6, vs6, d6, ds6, p6, q6, rfl, rfl, rfl, h6, r6⟩ := trodAll_cons r5
  obtain ⟨v7, vs7, d7, ds7, p7, q7, rfl, rfl, rfl, h7, r7⟩ := trodAll_cons r6
  obtain ⟨v8, vs8, d8, ds8, p8, q8, rfl, rfl, rfl, h8, r8⟩ := trodAll_cons r7
  obtain ⟨rfl, rfl, rfl⟩ := trodAll_nil r8
  obtain rfl : args = #[v0, v1, v2, v3, v4, v5, v6, v7, v8] := by cases args; simp_all
  obtain ⟨rfl, rfl⟩ := trodVars_none hV
  have k0 := h0
  have lt0 : ∀ x ∈ p0, x.block < W.heap.size := by obtain ⟨m, hm⟩ := k0; exact DataW.trod_lt m _ _ _ hm
  have k1 := h1
  have lt1 : ∀ x ∈ p1, x.block < W.heap.size := by obtain ⟨m, hm⟩ := k1; exact DataW.trod_lt m _ _ _ hm
  have k2 := h2
  have lt2 : ∀ x ∈ p2, x.block < W.heap.size := by obtain ⟨m, hm⟩ := k2; exact DataW.trod_lt m _ _ _ hm
  have k3 := h3
  have lt3 : ∀ x ∈ p3, x.block < W.heap.size := by obtain ⟨m, hm⟩ := k3; exact DataW.trod_lt m _ _ _ hm
  have k4 := h4
  have lt4 : ∀ x ∈ p4, x.block < W.heap.size := by obtain ⟨m, hm⟩ := k4; exact DataW.trod_lt m _ _ _ hm
  have k5 := h5
  have lt5 : ∀ x ∈ p5, x.block < W.heap.size := by obtain ⟨m, hm⟩ := k5; exact DataW.trod_lt m _ _ _ hm
  have k6 := h6
  have lt6 : ∀ x ∈ p6, x.block < W.heap.size := by obtain ⟨m, hm⟩ := k6; exact DataW.trod_lt m _ _ _ hm
  have k7 := h7
  have lt7 : ∀ x ∈ p7, x.block < W.heap.size := by obtain ⟨m, hm⟩ := k7; exact DataW.trod_lt m _ _ _ hm
  have k8 := h8
  have lt8 : ∀ x ∈ p8, x.block < W.heap.size := by obtain ⟨m, hm⟩ := k8; exact DataW.trod_lt m _ _ _ hm
  obtain ⟨A0, n0, c0, x0, rfl, ⟨s0, g0⟩, b0, m0⟩ := Lc (hval 0 22 v0 rfl rfl) h0
  obtain ⟨A1, n1, c1, x1, rfl, ⟨s1, g1⟩, b1, m1⟩ := JL (hval 1 23 v1 rfl rfl) h1
  obtain ⟨a2, rfl, rfl, rfl, s2⟩ := open_int Tryz.underlying3 (hval 2 3 v2 rfl rfl) h2
  obtain ⟨a3, rfl, rfl, rfl, s3⟩ := open_int Tryz.underlying3 (hval 3 3 v3 rfl rfl) h3
  obtain ⟨a4, rfl, rfl, rfl, s4⟩ := open_int Tryz.underlying3 (hval 4 3 v4 rfl rfl) h4
  obtain ⟨a5, rfl, rfl, rfl, s5⟩ := open_int Tryz.underlying3 (hval 5 3 v5 rfl rfl) h5
  obtain ⟨a6, rfl, rfl, rfl, s6⟩ := open_int Tryz.underlying3 (hval 6 3 v6 rfl rfl) h6
  obtain ⟨x7, rfl, g7⟩ := RU Tryz.underlying25 (hval 7 25 v7 rfl rfl) h7
  obtain ⟨x8, rfl, s8⟩ := Lb Tryz.underlying27 Tryz.underlying5 (by kernel_rfl) (by kernel_rfl) (hval 8 27 v8 rfl rfl) h8
  clear hA0 hval0
  refine (DY a2 a3 a4 a5 a6 x7 s8 W abD s0 s1 (fun q hq => (g1 q hq).2.1) b0 (Nat.le_trans b0 m0) (Nat.le_trans b1 m1) (bounds_i64 s4) (bounds_i64 s6)).mono fun e W' ⟨he, Sc⟩ => ?_
  subst he
  exact ⟨_, rfl, _, _, _, [], _, [], hW', trodAll_mk1 (shut_bool Tryz.underlying4 _), (trodAll_cons_mk (Below.trod nU (by kernel_rfl) (of_decide_eq_true (by kernel_rfl)) k0 Sc lt0) (trodAll_cons_mk (Below.trod nU (by kernel_rfl) (of_decide_eq_true (by kernel_rfl)) k1 Sc lt1) (trodAll_cons_mk (Below.trod nU (by kernel_rfl) (of_decide_eq_true (by kernel_rfl)) k2 Sc lt2) (trodAll_cons_mk (Below.trod nU (by kernel_rfl) (of_decide_eq_true (by kernel_rfl)) k3 Sc lt3) (trodAll_cons_mk (Below.trod nU (by kernel_rfl) (of_decide_eq_true (by kernel_rfl)) k4 Sc lt4) (trodAll_cons_mk (Below.trod nU (by kernel_rfl) (of_decide_eq_true (by kernel_rfl)) k5 Sc lt5) (trodAll_cons_mk (Below.trod nU (by kernel_rfl) (of_decide_eq_true (by kernel_rfl)) k6 Sc lt6) (trodAll_cons_mk (Below.trod nU (by kernel_rfl) (of_decide_eq_true (by kernel_rfl)) k7 Sc lt7) (trodAll_cons_mk (Below.trod nU (by kernel_rfl) (of_decide_eq_true (by kernel_rfl)) k8 Sc lt8) trodAll_mk0))))))))), rfl, Sc.frame _, fun h => by cases h⟩

set_option maxRecDepth 100000 in
theorem Dp : (Rows.splitTellsRow.wf (OpenSpec.ofChange Rows.splitTellsSpec)) = true := by kernel_rfl
set_option maxRecDepth 100000 in
theorem Dq : (laidOutB Tryz.prog) = true := by kernel_rfl
set_option maxRecDepth 100000 in
theorem Dr : (mapsRowed Tryz.prog) = true := by kernel_rfl
set_option maxRecDepth 100000 in
theorem Du : (Tryz.f3.params.all (Tryz.prog.readableRec ·)) = true := by kernel_rfl
set_option maxRecDepth 100000 in
theorem Dv : (namedTie Tryz.prog Rows.splitTellsRow.named Rows.splitTellsSpec.vars) = true := by kernel_rfl
set_option maxRecDepth 100000 in
theorem Dw : ((Rows.splitTellsRow.stops == [])) = true := by kernel_rfl
set_option maxRecDepth 100000 in
theorem Dx : ((Tryz.prog.stops == [])) = true := by kernel_rfl
set_option maxRecDepth 100000 in
theorem Dy : ((Rows.splitTellsRow.knobs == [])) = true := by kernel_rfl
set_option maxRecDepth 100000 in
theorem Dz : ((Tryz.prog.stopKnobs == [])) = true := by kernel_rfl
set_option maxRecDepth 100000 in
theorem DD : ((Rows.splitTellsRow.inPlace == Tryz.prog.inPlace 3)) = true := by kernel_rfl
set_option maxRecDepth 100000 in
theorem zB : ((Rows.splitTellsRow.unfollowed == Tryz.prog.unfollowed 3)) = true := by kernel_rfl
set_option maxRecDepth 100000 in
theorem zC : ((Rows.splitTellsRow.recurses == Tryz.prog.recurses 3)) = true := by kernel_rfl
set_option maxRecDepth 100000 in
theorem zD : ((Rows.splitTellsRow.named == Tryz.prog.varsNamed 3)) = true := by kernel_rfl
set_option maxRecDepth 100000 in
theorem zF : ((Rows.splitTellsRow.maps == (Tryz.f3.params.toList ++ Rows.splitTellsSpec.plain.varTypes Tryz.prog).any (Tryz.prog.mapsRec ·))) = true := by kernel_rfl
set_option maxRecDepth 100000 in
theorem zG : ((Rows.splitTellsRow.ifaces == (Tryz.f3.params.toList ++ Rows.splitTellsSpec.plain.varTypes Tryz.prog).any (Tryz.prog.ifacesRec ·))) = true := by kernel_rfl
set_option maxRecDepth 100000 in
theorem zH : ((Rows.splitTellsRow.mapsOut == Tryz.prog.mapsAmong Tryz.f3.resultTypes.toList)) = true := by kernel_rfl
set_option maxRecDepth 100000 in
theorem zJ : ((Rows.splitTellsRow.loops == (Tryz.f3.params.toList ++ Rows.splitTellsSpec.plain.varTypes Tryz.prog).any (Tryz.prog.loopsFrom ·))) = true := by kernel_rfl
set_option maxRecDepth 100000 in
theorem zK : ((Rows.splitTellsRow.wideKeys == (Tryz.f3.params.toList ++ Rows.splitTellsSpec.plain.varTypes Tryz.prog ++ Tryz.f3.resultTypes.toList).any (Tryz.prog.wideKeysFrom ·))) = true := by kernel_rfl
set_option maxRecDepth 100000 in
theorem zL : (Rows.splitTellsSpec.vars.all (Tryz.prog.varReadable ·)) = true := by kernel_rfl
set_option maxRecDepth 100000 in
theorem zM : (Tryz.f3.resultTypes.all (fun t => Tryz.prog.readableRec t && decide (t < Tryz.prog.types.size))) = true := by kernel_rfl
set_option maxRecDepth 100000 in
theorem zN : ((Rows.splitTellsRow.ifacesOut == Tryz.f3.resultTypes.toList.any (Tryz.prog.ifacesRec ·))) = true := by kernel_rfl
set_option maxRecDepth 100000 in
theorem zO : ((Rows.splitTellsRow.loopsOut == Tryz.f3.resultTypes.toList.any (Tryz.prog.loopsFrom ·))) = true := by kernel_rfl
set_option maxRecDepth 100000 in
theorem zP : ((Rows.splitTellsRow.plainKeys == Tryz.prog.plainKeys)) = true := by kernel_rfl
set_option maxRecDepth 100000 in
theorem zQ : (Rows.splitTellsRow.shortTexts.isNone) = true := by kernel_rfl
set_option maxRecDepth 100000 in
theorem zR : (Tryz.prog.stopsHeard) = true := by kernel_rfl
set_option maxRecDepth 100000 in
theorem zS : (Tryz.prog.mayEnter) = true := by kernel_rfl
set_option maxRecDepth 100000 in
theorem zT : ((Rows.splitTellsRow.lifted == Tryz.prog.liftsFinal)) = true := by kernel_rfl
set_option maxRecDepth 100000 in
theorem zU : ((Tryz.prog.make == some Rows.splitTellsRow.make)) = true := by kernel_rfl
set_option maxRecDepth 100000 in
theorem zV : ((Rows.splitTellsRow.kinds == [])) = true := by kernel_rfl
set_option maxRecDepth 100000 in
theorem zW : ((Rows.splitTellsRow.pinned == Rows.splitTellsRow.pinnedBy)) = true := by kernel_rfl
set_option maxRecDepth 100000 in
theorem zX : ((Rows.splitTellsRow.veiled == (Tryz.f3.params.toList ++ Rows.splitTellsSpec.plain.varTypes Tryz.prog ++ Tryz.f3.resultTypes.toList).any (Tryz.prog.veiledRec ·))) = true := by kernel_rfl
set_option maxRecDepth 100000 in
theorem zY : (Rows.splitTellsRow.veiledFits Tryz.prog Tryz.f3.params.toList (Tryz.f3.params.toList ++ Rows.splitTellsSpec.plain.varTypes Tryz.prog ++ Tryz.f3.resultTypes.toList)) = true := by kernel_rfl
theorem iy {a b : Bool} (ha : a = true) (hb : b = true) : (a && b) = true := by rw [ha, hb]; rfl
set_option maxRecDepth 100000 in
theorem yf : joinedFacts Tryz.prog 3 Tryz.f3 Rows.splitTellsSpec Rows.splitTellsRow = true :=
  iy (iy (iy (iy (iy (iy (iy (iy (iy (iy (iy (iy (iy (iy (iy (iy (iy (iy (iy (iy (iy (iy (iy (iy (iy (iy (iy (iy (iy (iy (iy (Dp) Dq) Dr) Du) Dv) Dw) Dx) Dy) Dz) DD) zB) zC) zD) zF) zG) zH) zJ) zK) zL) zM) zN) zO) zP) zQ) zR) zS) zT) zU) (by rw [if_pos (show Rows.splitTellsRow.domain.isEmpty = true by kernel_rfl)]; exact zV)) zW) zX) zY
theorem rR : Tryz.prog.funcNamed "corsned/corsnedlaw39.SplitTells" = some 3 := by kernel_rfl
theorem zZ : Rows.splitTellsRow.holds Tryz.pinned (OpenSpec.ofChange Rows.splitTellsSpec) :=
  OpenClaim.holds_of_wide 3 Tryz.f3 rfl rfl rfl rfl rfl rfl rfl ⟨rfl, rfl, rfl, rfl, rfl⟩ rfl rfl rfl rfl rfl rR Tryz.func3 yf
    (of_decide_eq_true (by kernel_rfl)) (by unfold Func.isWrapper; first | (rw [if_pos (by decide +kernel)]; kernel_rfl) | (rw [if_neg (by decide +kernel)]; exact ⟨rfl, rfl⟩))
    (fun os started H enc _ => yc os started H enc)

theorem DF : Rows.splitTellsRow.wfByText (OpenSpec.ofChange Rows.splitTellsSpec) = true := by kernel_rfl
theorem yV : true = Tryz.prog.looks [] := by kernel_rfl
theorem z8 : false = Rows.splitTellsRow.goesBy Tryz.prog := by kernel_rfl
theorem yX : ([22, 23, 3, 3, 3, 3, 3, 25, 27].all fun u => !Tryz.prog.wantsStandIn u) = true := by kernel_rfl
theorem SplitTells_holds : Rows.SplitTellsCardSaid :=
  Claim7.holds_tied_plain_at .later [] [.data, .data, .data] true (true, "fcfe413099a55a5621dde62b5bdb586cb37ba6523c7eb10da6d5a21bf6dc6e7c") true
    zZ (fun _ h => by cases h) DF (fun _ h => by cases h) splitTells_row_tie rfl ⟨rfl, rfl⟩ (by kernel_rfl) rfl
    (fun f fn hf hfn => by
      obtain rfl : f = 3 := Option.some.inj (rR.symm.trans hf) |>.symm
      obtain rfl : fn = Tryz.f3 := (Option.some.inj (Tryz.func3.symm.trans hfn)).symm
      exact ⟨yV, fun j t ht => by
        rw [Tryz.params3] at ht
        have hm : t ∈ [22, 23, 3, 3, 3, 3, 3, 25, 27] := by simpa using Array.mem_of_getElem? ht
        have hall := yX
        exact (show Tryz.prog.wantsStandIn t = false by simpa using List.all_eq_true.1 hall t hm)⟩)
    z8
end Go.Proofs.YtkaedikifgpkeaaGreatDoor

