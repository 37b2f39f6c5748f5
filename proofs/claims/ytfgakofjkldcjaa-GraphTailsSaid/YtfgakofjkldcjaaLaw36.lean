/- The statements GraphSums and GraphTails walked: each answers true and leaves old memory as it was. -/
import Derived.Test.YtfgakofjkldcjaaSmall36
import Derived.Test.YtfgakofjkldcjaaGsp4
import Derived.Test.YtfgakofjkldcjaaGsp5
namespace Go.Proofs.Ytfgakofjkldcjaa
open Go Go.Sx Go.Hsp Go.Num Go.Osp Go.Gsp
set_option maxRecDepth 20000
set_option linter.unusedSimpArgs false
set_option linter.unusedVariables false
theorem GraphSums_ok (a x : Int) {A : Option Addr} {n c : Nat} {xs : List Gsp.Edge} (w : World) (hV : Vec w edgeV 9 A n xs) (hnc : n ≤ c) (hn0 : n ≤ 9223372036854775807) : Calls Try.prog 7 #[.slice A n c, .int .i64 (a), .int .i64 (x)] w fun r w' => r = .returned (.bool true) ∧ Le w w' := by
  have hl := hV.1
  refine enter Try.func7 rfl rfl ?_
  have L0 := Le.refl w
  refine WC.seq ?_
  refine WC.region ?_
  refine W.any (.assign rfl) rfl rfl rfl ?_
  refine W.nil ?_
  refine E.thenN ?_
  refine WC.seq ?_
  refine WC.region ?_
  refine W.ef rfl rfl rfl ?_
  refine Ef.call go32 rfl rfl (small36_ok w) ?_
  rintro _ w1_0 ⟨rfl, h1_0⟩
  refine ⟨_, rfl, ?_⟩
  have L1 := L0.trans h1_0
  refine W.any (.assign rfl) rfl rfl rfl ?_
  refine W.nil ?_
  refine E.thenN ?_
  refine WC.seq ?_
  refine WC.seq ?_
  refine WC.region ?_
  refine W.any (.move rfl) rfl rfl rfl ?_
  refine W.rd (.len Try.underlying59 rfl) rfl rfl rfl ?_
  refine W.any (.gtr rfl rfl) rfl rfl rfl ?_
  refine W.nil ?_
  refine E.thenN ?_
  by_cases c0 : 20 < ((n : Nat) : Int)
  · refine WC.condY rfl (decide_eq_true c0) ?_
    refine WC.seq ?_
    refine WC.region ?_
    refine W.any (.move rfl) rfl rfl rfl ?_
    refine W.any (.assign rfl) rfl rfl rfl ?_
    refine W.nil ?_
    refine E.thenN ?_
    refine WC.ret ?_
    refine E.thenR ?_
    refine E.retG1 rfl rfl ?_
    exact ⟨rfl, L1⟩
  · refine WC.condN rfl (decide_eq_false c0) ?_
    refine WC.skip ?_
    refine E.thenN ?_
    refine WC.seq ?_
    refine WC.region ?_
    refine W.any (.move rfl) rfl rfl rfl ?_
    refine W.any (.move rfl) rfl rfl rfl ?_
    refine W.any (.move rfl) rfl rfl rfl ?_
    refine W.ef rfl rfl rfl ?_
    refine Ef.call go33 rfl rfl (cost_ok a x w1_0 (hV.le L1) (by omega)) ?_
    rintro _ w4_3 ⟨Aa4_3, ca4_3, Ab4_3, cb4_3, rfl, oa4_3, ob4_3, h4_3⟩
    refine ⟨_, rfl, ?_⟩
    have L2 := L1.trans h4_3
    have hcsC := fun h => @costs_of a x xs h
    have hcbC := @costG_bad xs a x
    generalize hgenC : costG xs a x = C at *
    refine W.any (.move rfl) rfl rfl rfl ?_
    refine W.any (.extract rfl rfl) rfl rfl rfl ?_
    refine W.any (.extract rfl rfl) rfl rfl rfl ?_
    refine W.any (.extract rfl rfl) rfl rfl rfl ?_
    refine W.any (.assign rfl) rfl rfl rfl ?_
    refine W.any (.assign rfl) rfl rfl rfl ?_
    refine W.any (.assign rfl) rfl rfl rfl ?_
    refine W.nil ?_
    refine E.thenN ?_
    refine WC.seq ?_
    refine WC.seq ?_
    refine WC.region ?_
    refine W.any (.move rfl) rfl rfl rfl ?_
    refine W.any (.neq rfl rfl) rfl rfl rfl ?_
    refine W.nil ?_
    refine E.thenN ?_
    by_cases c1 : C.2.2 ≠ 0
    · refine WC.condY rfl (decide_eq_true c1) ?_
      obtain ⟨hb1, hb2⟩ := hcbC (by assumption)
      refine WC.seq ?_
      refine WC.region ?_
      refine W.any (.move rfl) rfl rfl rfl ?_
      refine W.any (.move rfl) rfl rfl rfl ?_
      refine W.rdg (Any.rd (.move rfl) _) rfl rfl rfl (rfl) rfl rfl ?_
      refine W.rdg (.len Try.underlying53 rfl) rfl rfl rfl (rfl) rfl rfl ?_
      refine W.rdg (Any.rd (.eql rfl rfl) _) rfl rfl rfl (rfl) rfl rfl ?_
      refine W.any (.pickT rfl rfl rfl) rfl rfl rfl ?_
      refine W.any (.dec (.move rfl) (decide_eq_true (by rw [hb1]; rfl))) rfl rfl rfl ?_
      refine W.rdg (Any.rd (.move rfl) _) rfl rfl rfl (rfl) rfl rfl ?_
      refine W.rdg (.len Try.underlying53 rfl) rfl rfl rfl (rfl) rfl rfl ?_
      refine W.rdg (Any.rd (.dec (.eql rfl rfl) (decide_eq_true (by rw [hb2]; rfl))) _) rfl rfl rfl (rfl) rfl rfl ?_
      refine W.any (.pickT rfl rfl rfl) rfl rfl rfl ?_
      refine W.any (.assign rfl) rfl rfl rfl ?_
      refine W.nil ?_
      refine E.thenN ?_
      refine WC.ret ?_
      refine E.thenR ?_
      refine E.retG1 rfl rfl ?_
      exact ⟨rfl, L2⟩
    · refine WC.condN rfl (decide_eq_false c1) ?_
      have hcs := hcsC (Decidable.not_not.1 (by assumption))
      have hlS := hcs.lenS
      have hlT := hcs.lenT
      have hwl := hcs.len
      refine WC.skip ?_
      refine E.thenN ?_
      refine WC.seq ?_
      refine WC.seq ?_
      refine WC.region ?_
      refine W.any (.move rfl) rfl rfl rfl ?_
      refine W.rd (.len Try.underlying53 rfl) rfl rfl rfl ?_
      refine W.any (.move rfl) rfl rfl rfl ?_
      refine W.rd (.len Try.underlying59 rfl) rfl rfl rfl ?_
      refine W.any (.neq rfl rfl) rfl rfl rfl ?_
      refine W.any (.dec (.move rfl) (decide_eq_false (by omega))) rfl rfl rfl ?_
      refine W.rdg (Any.rd (.move rfl) _) rfl rfl rfl (rfl) rfl rfl ?_
      refine W.rdg (.len Try.underlying53 rfl) rfl rfl rfl (rfl) rfl rfl ?_
      refine W.rdg (Any.rd (.move rfl) _) rfl rfl rfl (rfl) rfl rfl ?_
      refine W.rdg (.len Try.underlying59 rfl) rfl rfl rfl (rfl) rfl rfl ?_
      refine W.rdg (Any.rd (.neq rfl rfl) _) rfl rfl rfl (rfl) rfl rfl ?_
      refine W.any (.pickF rfl rfl rfl) rfl rfl rfl ?_
      refine W.nil ?_
      refine E.thenN ?_
      refine WC.condN rfl (decide_eq_false (by omega)) ?_
      refine WC.skip ?_
      refine E.thenN ?_
      refine WC.seq ?_
      refine WC.region ?_
      refine W.any (.assign rfl) rfl rfl rfl ?_
      refine W.nil ?_
      refine E.thenN ?_
      refine WC.seq ?_
      refine WC.region ?_
      refine W.any (.assign rfl) rfl rfl rfl ?_
      refine W.nil ?_
      refine E.thenN ?_
      refine WC.seq ?_
      refine WC.seq ?_
      refine WC.region ?_
      refine W.any (.move rfl) rfl rfl rfl ?_
      refine W.rd (.len Try.underlying59 rfl) rfl rfl rfl ?_
      refine W.any (.sub rfl rfl (by omega)) rfl rfl rfl ?_
      refine W.any (.assign rfl) rfl rfl rfl ?_
      refine W.nil ?_
      refine E.thenN ?_
      refine WC.block ?_
      refine WC.loop (ι := Nat × Int × Int) (fun ⟨j, fees, blk⟩ => [(0, .slice A n c), (1, .int .i64 (a)), (2, .int .i64 (x)), (7, .bool true), (8, .slice Aa4_3 C.1.length ca4_3), (9, .slice Ab4_3 C.2.1.length cb4_3), (11, .int .i64 (fees)), (12, .int .i64 (blk)), (13, .int .i64 (((j : Nat) : Int) - 1))]) (fun ⟨j, fees, blk⟩ wl0 => (j ≤ n) ∧ (0 < j → C.1.getD (j - 1) 0 = a + fees ∧ C.2.1.getD (j - 1) 0 = x + blk) ∧ (0 ≤ blk) ∧ Le w wl0 ∧ w4_3.heap.size ≤ wl0.heap.size ∧ OVec wl0 w1_0.heap.size 3 iv 1 Aa4_3 C.1.length ca4_3 C.1 ∧ OVec wl0 w1_0.heap.size 3 iv 1 Ab4_3 C.2.1.length cb4_3 C.2.1) (fun ⟨j, fees, blk⟩ => j) (n, 0, 0) ?_ ?_ ?_
      · exact .cons rfl (.cons rfl (.cons rfl (.cons rfl (.cons rfl (.cons rfl (.cons rfl (.cons rfl (.cons rfl (.nil _)))))))))
      · exact ⟨Nat.le_refl _, fun _ => by have h1 := hcs.endS; have h2 := hcs.endT; rw [hl] at h1 h2; rw [h1, h2]; simp, by decide, L2, Nat.le_refl _, oa4_3, ob4_3⟩
      · rintro ⟨j, fees, blk⟩ wl0 ⟨hj, hinv, hbk, Ll0, sz0, f0_0, f0_1⟩
        have lb0_2 : w1_0.heap.size ≤ wl0.heap.size := by have := h4_3.size; omega
        have lb0_3 : w1_0.heap.size ≤ wl0.heap.size := by have := h4_3.size; omega
        refine WC.seq ?_
        refine WC.seq ?_
        refine WC.region ?_
        refine W.any (.move rfl) rfl rfl rfl ?_
        refine W.any (.geq rfl rfl) rfl rfl rfl ?_
        refine W.nil ?_
        refine E.thenN ?_
        by_cases c3 : 0 ≤ (((j : Nat) : Int) - 1)
        · refine WC.condY rfl (decide_eq_true c3) ?_
          obtain ⟨hs1, hs2⟩ := hinv (by omega)
          have hrm := hcs.room (j - 1) (by omega)
          have hok := edgeOk_T (wayG_at hcs.way (i := j - 1) (by omega)).1
          have hpk := polOk_T hok.2.2.2.2.2
          have hpI := polI_ok hok.2.2.2.2.2
          have hfb := feeG_bound (xs.getD (j - 1) noEdge).pol (C.1.getD (j - 1) 0)
          have ham := hcs.amt
          have hex := hcs.exp
          refine WC.skip ?_
          refine E.thenN ?_
          refine WC.seq ?_
          refine WC.block ?_
          refine WC.seq ?_
          refine WC.seq ?_
          refine WC.draw [0, 1, 2, 3, 4, 5, 6, 7, 8, 9, 10, 11, 12, 13, 14, 15, 16, 17, 18, 19, 20, 21, 22, 23, 24, 25, 26, 27, 28, 29, 30, 31, 32, 33, 34, 35, 36] mixed (by kernel_rfl) ?_
          intro w14 d14
          have L3 := Ll0.trans d14
          refine G.any rfl rfl (.move rfl) rfl rfl rfl ?_
          refine G.any rfl rfl (.move rfl) rfl rfl rfl ?_
          refine G.any rfl rfl (.idxS ((j - 1)) Try.underlying53 sz3 rfl rfl (oa4_3.vec.isSome iv_row (by omega)) (by omega) (by omega)) rfl rfl rfl ?_
          have f4 := (f0_0.le d14)
          refine G.rd rfl rfl (.vone na3 rfl f4.vec iv_row (getS C.1 0 (by first | omega | (simp only [List.length_cons, List.length_nil]; omega))) rfl) rfl rfl rfl ?_
          refine G.any rfl rfl (.move rfl) rfl rfl rfl ?_
          refine G.any rfl rfl (.move rfl) rfl rfl rfl ?_
          refine G.any rfl rfl (.add rfl rfl (by omega)) rfl rfl rfl ?_
          refine G.any rfl rfl (.neq rfl rfl) rfl rfl rfl ?_
          refine G.any rfl rfl (.dec (.move rfl) (decide_eq_false (by omega))) rfl rfl rfl ?_
          refine G.anyg rfl rfl (.move rfl) rfl rfl rfl (rfl) rfl rfl ?_
          refine G.anyg rfl rfl (.move rfl) rfl rfl rfl (rfl) rfl rfl ?_
          refine G.anyg rfl rfl (.idxS ((j - 1)) Try.underlying53 sz3 rfl rfl (ob4_3.vec.isSome iv_row (by omega)) (by omega) (by omega)) rfl rfl rfl (rfl) rfl rfl ?_
          have f5 := (f0_1.le d14)
          refine G.rdg rfl rfl (.vone na3 rfl f5.vec iv_row (getS C.2.1 0 (by first | omega | (simp only [List.length_cons, List.length_nil]; omega))) rfl) rfl rfl rfl (rfl) rfl rfl ?_
          refine G.anyg rfl rfl (.move rfl) rfl rfl rfl (rfl) rfl rfl ?_
          refine G.anyg rfl rfl (.move rfl) rfl rfl rfl (rfl) rfl rfl ?_
          refine G.anyg rfl rfl (.add rfl rfl (by omega)) rfl rfl rfl (rfl) rfl rfl ?_
          refine G.anyg rfl rfl (.neq rfl rfl) rfl rfl rfl (rfl) rfl rfl ?_
          refine G.any rfl rfl (.pickF rfl rfl rfl) rfl rfl rfl ?_
          refine G.any rfl rfl (.dec (.move rfl) (decide_eq_false (by omega))) rfl rfl rfl ?_
          refine G.anyg rfl rfl (.move rfl) rfl rfl rfl (rfl) rfl rfl ?_
          refine G.anyg rfl rfl (.move rfl) rfl rfl rfl (rfl) rfl rfl ?_
          refine G.anyg rfl rfl (.idxS ((j - 1)) Try.underlying53 sz3 rfl rfl (oa4_3.vec.isSome iv_row (by omega)) (by omega) (by omega)) rfl rfl rfl (rfl) rfl rfl ?_
          refine G.rdg rfl rfl (.vone na3 rfl f4.vec iv_row (getS C.1 0 (by first | omega | (simp only [List.length_cons, List.length_nil]; omega))) rfl) rfl rfl rfl (rfl) rfl rfl ?_
          refine G.anyg rfl rfl (.move rfl) rfl rfl rfl (rfl) rfl rfl ?_
          refine G.anyg rfl rfl (.move rfl) rfl rfl rfl (rfl) rfl rfl ?_
          refine G.anyg rfl rfl (.idxS ((j - 1)) Try.underlying59 sz76 rfl rfl (hV.isSome edgeV_row (by omega)) (by omega) (by omega)) rfl rfl rfl (rfl) rfl rfl ?_
          refine G.anyg rfl rfl (.vfield fa76_3 (hV.isSome edgeV_row (by omega)) rfl) rfl rfl rfl (rfl) rfl rfl ?_
          refine G.rdg rfl rfl (.vcell (j := (j - 1)) (o := 3) na3 rfl (hV.le L3) edgeV_row (getS xs noEdge (by first | omega | (simp only [List.length_cons, List.length_nil]; omega))) rfl) rfl rfl rfl (rfl) rfl rfl ?_
          refine G.anyg rfl rfl (.gtr rfl rfl) rfl rfl rfl (rfl) rfl rfl ?_
          refine G.any rfl rfl (.pickF rfl rfl rfl) rfl rfl rfl ?_
          refine G.any rfl rfl (.dec (.move rfl) (decide_eq_false (by omega))) rfl rfl rfl ?_
          refine G.anyg rfl rfl (.move rfl) rfl rfl rfl (rfl) rfl rfl ?_
          refine G.anyg rfl rfl (.move rfl) rfl rfl rfl (rfl) rfl rfl ?_
          refine G.anyg rfl rfl (.idxS ((j - 1)) Try.underlying53 sz3 rfl rfl (ob4_3.vec.isSome iv_row (by omega)) (by omega) (by omega)) rfl rfl rfl (rfl) rfl rfl ?_
          refine G.rdg rfl rfl (.vone na3 rfl f5.vec iv_row (getS C.2.1 0 (by first | omega | (simp only [List.length_cons, List.length_nil]; omega))) rfl) rfl rfl rfl (rfl) rfl rfl ?_
          refine G.anyg rfl rfl (.gtr rfl rfl) rfl rfl rfl (rfl) rfl rfl ?_
          refine G.any rfl rfl (.pickF rfl rfl rfl) rfl rfl rfl ?_
          refine G.nil ?_
          refine E.thenN ?_
          refine WC.condN rfl (decide_eq_false (by omega)) ?_
          refine WC.skip ?_
          refine E.thenN ?_
          refine WC.seq ?_
          refine WC.draw [0, 1, 2, 3, 4, 5, 6, 7, 8, 9, 10, 11, 12, 13, 14] mixed (by kernel_rfl) ?_
          intro w16 d16
          have L6 := L3.trans d16
          refine G.any rfl rfl (.move rfl) rfl rfl rfl ?_
          refine G.any rfl rfl (.move rfl) rfl rfl rfl ?_
          refine G.any rfl rfl (.idxS ((j - 1)) Try.underlying59 sz76 rfl rfl (hV.isSome edgeV_row (by omega)) (by omega) (by omega)) rfl rfl rfl ?_
          refine G.any rfl rfl (.vfield fa76_4 (hV.isSome edgeV_row (by omega)) rfl) rfl rfl rfl ?_
          refine G.rd rfl rfl (.vpart (j := (j - 1)) (o := 4) (polV ((xs.getD (j - 1) noEdge).pol)) ag74 rfl (by decide) rfl (hV.le L6) edgeV_row (getS xs noEdge (by first | omega | (simp only [List.length_cons, List.length_nil]; omega))) rfl) rfl rfl rfl ?_
          refine G.any rfl rfl (.move rfl) rfl rfl rfl ?_
          refine G.any rfl rfl (.move rfl) rfl rfl rfl ?_
          refine G.any rfl rfl (.idxS ((j - 1)) Try.underlying53 sz3 rfl rfl (oa4_3.vec.isSome iv_row (by omega)) (by omega) (by omega)) rfl rfl rfl ?_
          have f7 := (f4.le d16)
          refine G.rd rfl rfl (.vone na3 rfl f7.vec iv_row (getS C.1 0 (by first | omega | (simp only [List.length_cons, List.length_nil]; omega))) rfl) rfl rfl rfl ?_
          refine G.ef rfl rfl rfl rfl rfl ?_
          refine Ef.call go39 rfl rfl (hfee_ok ((xs.getD (j - 1) noEdge).pol) (C.1.getD (j - 1) 0) hpI w16) ?_
          rintro _ w16_9 ⟨rfl, h16_9⟩
          refine ⟨_, rfl, ?_⟩
          refine ⟨fun _ => h16_9, ?_⟩
          have L8 := L6.trans h16_9
          refine G.any rfl rfl (.move rfl) rfl rfl rfl ?_
          refine G.any rfl rfl (.extract rfl rfl) rfl rfl rfl ?_
          refine G.any rfl rfl (.extract rfl rfl) rfl rfl rfl ?_
          refine G.any rfl rfl (.assign rfl) rfl rfl rfl ?_
          refine G.any rfl rfl (.assign rfl) rfl rfl rfl ?_
          refine G.nil ?_
          refine E.thenN ?_
          refine WC.seq ?_
          refine WC.region ?_
          refine W.any (.move rfl) rfl rfl rfl ?_
          refine W.any (.move rfl) rfl rfl rfl ?_
          refine W.any (.add rfl rfl (by omega)) rfl rfl rfl ?_
          refine W.any (.assign rfl) rfl rfl rfl ?_
          refine W.nil ?_
          refine E.thenN ?_
          refine WC.region ?_
          refine W.any (.move rfl) rfl rfl rfl ?_
          refine W.any (.move rfl) rfl rfl rfl ?_
          refine W.any (.move rfl) rfl rfl rfl ?_
          refine W.any (.idxS ((j - 1)) Try.underlying59 sz76 rfl rfl (hV.isSome edgeV_row (by omega)) (by omega) (by omega)) rfl rfl rfl ?_
          refine W.any (.vfield fa76_4 (hV.isSome edgeV_row (by omega)) rfl) rfl rfl rfl ?_
          refine W.any (.vfield fa74_2 (hV.isSome edgeV_row (by omega)) rfl) rfl rfl rfl ?_
          refine W.rd (.vcell (j := (j - 1)) (o := 6) na3 rfl (hV.le L8) edgeV_row (getS xs noEdge (by first | omega | (simp only [List.length_cons, List.length_nil]; omega))) rfl) rfl rfl rfl ?_
          refine W.any (.add rfl rfl (by omega)) rfl rfl rfl ?_
          refine W.any (.assign rfl) rfl rfl rfl ?_
          refine W.nil ?_
          refine E.blkN ?_
          refine E.thenN ?_
          refine WC.region ?_
          refine W.any (.move rfl) rfl rfl rfl ?_
          refine W.any (.sub rfl rfl (by omega)) rfl rfl rfl ?_
          refine W.any (.assign rfl) rfl rfl rfl ?_
          refine W.nil ?_
          have f9 := (f7.le h16_9)
          have f10 := (f5.le (d16.trans h16_9))
          refine E.again (j - 1, fees + (feeG (xs.getD (j - 1) noEdge).pol (C.1.getD (j - 1) 0)).1, blk + (xs.getD (j - 1) noEdge).pol.d) (.cons rfl (.cons rfl (.cons rfl (.cons rfl (.cons rfl (.cons rfl (.cons rfl (.cons rfl (.cons' rfl (int_eq (by omega)) (.nil _)))))))))) ?_ ?_
          · exact ⟨by omega, fun h0 => by have hst := (hcs.step (j - 2) (by omega)).2.2; rw [show j - 2 + 1 = j - 1 by omega] at hst; rw [show j - 1 - 1 = j - 2 by omega]; omega, by omega, L8, by have := sz0; have := d14.size; have := d16.size; have := h16_9.size; omega, f9, f10⟩
          · show j - 1 < j; omega
        · refine WC.condN rfl (decide_eq_false c3) ?_
          refine WC.exit ?_
          refine E.thenX ?_
          refine E.thenX ?_
          refine E.blkH ?_
          refine E.thenN ?_
          refine WC.seq ?_
          refine WC.region ?_
          refine W.any (.move rfl) rfl rfl rfl ?_
          refine W.any (.assign rfl) rfl rfl rfl ?_
          refine W.nil ?_
          refine E.thenN ?_
          refine WC.ret ?_
          refine E.retG1 rfl rfl ?_
          exact ⟨rfl, Ll0⟩

theorem GraphTails_ok (k : Int) (hk8 : 0 ≤ k ∧ k ≤ 255) (a x : Int) {A : Option Addr} {n c : Nat} {xs : List Gsp.Edge} (w : World) (hV : Vec w edgeV 9 A n xs) (hnc : n ≤ c) (hn0 : n ≤ 9223372036854775807) : Calls Try.prog 8 #[.slice A n c, .int .u8 (k), .int .i64 (a), .int .i64 (x)] w fun r w' => r = .returned (.bool true) ∧ Le w w' := by
  have hl := hV.1
  refine enter Try.func8 rfl rfl ?_
  have L0 := Le.refl w
  refine WC.seq ?_
  refine WC.region ?_
  refine W.any (.assign rfl) rfl rfl rfl ?_
  refine W.nil ?_
  refine E.thenN ?_
  refine WC.seq ?_
  refine WC.region ?_
  refine W.ef rfl rfl rfl ?_
  refine Ef.call go32 rfl rfl (small36_ok w) ?_
  rintro _ w1_0 ⟨rfl, h1_0⟩
  refine ⟨_, rfl, ?_⟩
  have L1 := L0.trans h1_0
  refine W.any (.assign rfl) rfl rfl rfl ?_
  refine W.nil ?_
  refine E.thenN ?_
  refine WC.seq ?_
  refine WC.seq ?_
  refine WC.region ?_
  refine W.any (.move rfl) rfl rfl rfl ?_
  refine W.rd (.len Try.underlying59 rfl) rfl rfl rfl ?_
  refine W.any (.gtr rfl rfl) rfl rfl rfl ?_
  by_cases q2_3 : 20 < ((n : Nat) : Int)
  · refine W.any (.dec (.move rfl) (decide_eq_true q2_3)) rfl rfl rfl ?_
    refine W.skip rfl rfl rfl (rfl) rfl rfl ?_
    refine W.skip rfl rfl rfl (rfl) rfl rfl ?_
    refine W.skip rfl rfl rfl (rfl) rfl rfl ?_
    refine W.any (.pickT rfl rfl rfl) rfl rfl rfl ?_
    refine W.nil ?_
    refine E.thenN ?_
    refine WC.condT rfl ?_
    refine WC.seq ?_
    refine WC.region ?_
    refine W.any (.move rfl) rfl rfl rfl ?_
    refine W.any (.assign rfl) rfl rfl rfl ?_
    refine W.nil ?_
    refine E.thenN ?_
    refine WC.ret ?_
    refine E.thenR ?_
    refine E.retG1 rfl rfl ?_
    exact ⟨rfl, L1⟩
  · refine W.any (.dec (.move rfl) (decide_eq_false q2_3)) rfl rfl rfl ?_
    refine W.rdg (Any.rd (.move rfl) _) rfl rfl rfl (rfl) rfl rfl ?_
    refine W.efg rfl rfl rfl (rfl) rfl rfl ?_
    refine Ef.call go40 rfl rfl (gway_ok w1_0 (hV.le L1) (by omega)) ?_
    rintro _ w2_5 ⟨rfl, h2_5⟩
    refine ⟨_, rfl, ?_⟩
    have L2 := L1.trans h2_5
    refine W.rdg (Any.rd (.not rfl) _) rfl rfl rfl (rfl) rfl rfl ?_
    refine W.any (.pickF rfl rfl rfl) rfl rfl rfl ?_
    refine W.nil ?_
    refine E.thenN ?_
    by_cases c0 : wayG xs = true
    · refine WC.condN rfl (congrArg not (c0)) ?_
      have hwG : wayG xs = true := by assumption
      have hwl := wayG_len hwG
      obtain ⟨kn, rfl⟩ := Int.eq_ofNat_of_zero_le hk8.1
      have hkn : kn % n < n := Nat.mod_lt _ (by omega)
      refine WC.skip ?_
      refine E.thenN ?_
      refine WC.seq ?_
      refine WC.region ?_
      refine W.any (.move rfl) rfl rfl rfl ?_
      refine W.rd (.idI (isS Try.underlying5) Try.underlying3 rfl (IntWalk.i64_in _ (by omega))) rfl rfl rfl ?_
      refine W.any (.move rfl) rfl rfl rfl ?_
      refine W.rd (.len Try.underlying59 rfl) rfl rfl rfl ?_
      refine W.any (.rem rfl rfl (by omega)) rfl rfl rfl ?_
      obtain ⟨at0, hat⟩ : ∃ q, q = kn % n := ⟨_, rfl⟩
      rw [show ((kn : Nat) : Int) % (n : Int) = ((at0 : Nat) : Int) by rw [hat]; omega]
      rw [← hat] at hkn
      refine W.any (.assign rfl) rfl rfl rfl ?_
      refine W.nil ?_
      refine E.thenN ?_
      refine WC.seq ?_
      refine WC.seq ?_
      refine WC.region ?_
      refine W.any (.move rfl) rfl rfl rfl ?_
      refine W.any (.move rfl) rfl rfl rfl ?_
      have v3 := hV.cutL c at0 (by omega) (by omega) edgeV_row
      have v3l := v3.1
      refine W.any (.cutL (at0) Try.underlying59 sz76 rfl rfl (rfl) (by omega) (by omega)) rfl rfl rfl ?_
      refine W.ef rfl rfl rfl ?_
      refine Ef.call go40 rfl rfl ((by have q := gway_ok (c := c - at0) w2_5 (v3.le L2) (by omega); rw [way_drop hwG (by omega)] at q; exact q)) ?_
      rintro _ w5_3 ⟨rfl, h5_3⟩
      refine ⟨_, rfl, ?_⟩
      have L4 := L2.trans h5_3
      refine W.any (.not rfl) rfl rfl rfl ?_
      refine W.any (.move rfl) rfl rfl rfl ?_
      refine W.rdg (Any.rd (.move rfl) _) rfl rfl rfl (rfl) rfl rfl ?_
      refine W.rdg (Any.rd (.move rfl) _) rfl rfl rfl (rfl) rfl rfl ?_
      refine W.rdg (Any.rd (.add rfl rfl (by omega)) _) rfl rfl rfl (rfl) rfl rfl ?_
      have v5 := hV.cutH (at0 + 1) (by omega) edgeV_row
      have v5l := v5.1
      refine W.rdg (Any.rd (.cutH ((at0 + 1)) Try.underlying59 sz76 rfl rfl (by omega) (by omega)) _) rfl rfl rfl (rfl) rfl rfl ?_
      refine W.efg rfl rfl rfl (rfl) rfl rfl ?_
      refine Ef.call go40 rfl rfl ((by have q := gway_ok (c := c) w5_3 (v5.le L4) (by omega); rw [way_take hwG (by omega)] at q; exact q)) ?_
      rintro _ w5_10 ⟨rfl, h5_10⟩
      refine ⟨_, rfl, ?_⟩
      have L6 := L4.trans h5_10
      refine W.rdg (Any.rd (.not rfl) _) rfl rfl rfl (rfl) rfl rfl ?_
      refine W.any (.pickF rfl rfl rfl) rfl rfl rfl ?_
      refine W.any (.move rfl) rfl rfl rfl ?_
      refine W.rdg (Any.rd (.move rfl) _) rfl rfl rfl (rfl) rfl rfl ?_
      refine W.rdg (.len Try.underlying59 rfl) rfl rfl rfl (rfl) rfl rfl ?_
      refine W.rdg (Any.rd (.gtr rfl rfl) _) rfl rfl rfl (rfl) rfl rfl ?_
      refine W.any (.pickF rfl rfl rfl) rfl rfl rfl ?_
      refine W.nil ?_
      refine E.thenN ?_
      refine WC.condN rfl (decide_eq_false (by omega)) ?_
      refine WC.skip ?_
      refine E.thenN ?_
      refine WC.seq ?_
      refine WC.region ?_
      refine W.any (.move rfl) rfl rfl rfl ?_
      refine W.any (.move rfl) rfl rfl rfl ?_
      refine W.any (.move rfl) rfl rfl rfl ?_
      refine W.ef rfl rfl rfl ?_
      refine Ef.call go33 rfl rfl (cost_ok a x w5_10 (hV.le L6) (by omega)) ?_
      rintro _ w7_3 ⟨Aa7_3, ca7_3, Ab7_3, cb7_3, rfl, oa7_3, ob7_3, h7_3⟩
      refine ⟨_, rfl, ?_⟩
      have L7 := L6.trans h7_3
      have hcsC := fun h => @costs_of a x xs h
      have hcbC := @costG_bad xs a x
      generalize hgenC : costG xs a x = C at *
      refine W.any (.move rfl) rfl rfl rfl ?_
      refine W.any (.extract rfl rfl) rfl rfl rfl ?_
      refine W.any (.extract rfl rfl) rfl rfl rfl ?_
      refine W.any (.extract rfl rfl) rfl rfl rfl ?_
      refine W.any (.assign rfl) rfl rfl rfl ?_
      refine W.any (.assign rfl) rfl rfl rfl ?_
      refine W.any (.assign rfl) rfl rfl rfl ?_
      refine W.nil ?_
      refine E.thenN ?_
      refine WC.seq ?_
      refine WC.seq ?_
      refine WC.region ?_
      refine W.any (.move rfl) rfl rfl rfl ?_
      refine W.any (.neq rfl rfl) rfl rfl rfl ?_
      refine W.nil ?_
      refine E.thenN ?_
      by_cases c2 : C.2.2 ≠ 0
      · refine WC.condY rfl (decide_eq_true c2) ?_
        refine WC.seq ?_
        refine WC.region ?_
        refine W.any (.move rfl) rfl rfl rfl ?_
        refine W.any (.assign rfl) rfl rfl rfl ?_
        refine W.nil ?_
        refine E.thenN ?_
        refine WC.ret ?_
        refine E.thenR ?_
        refine E.retG1 rfl rfl ?_
        exact ⟨rfl, L7⟩
      · refine WC.condN rfl (decide_eq_false c2) ?_
        have hcs := hcsC (Decidable.not_not.1 (by assumption))
        have hlS := hcs.lenS
        have hlT := hcs.lenT
        have hwl := hcs.len
        have hin := hcs.inS (i := at0) (by omega)
        have hdrop : costG (xs.drop at0) a x = (C.1.drop at0, C.2.1.drop at0, 0) := by rw [← hgenC]; exact costG_drop (by rw [hgenC]; omega) (by omega)
        have htake : costG (xs.take (at0 + 1)) (C.1.getD at0 0) (C.2.1.getD at0 0) = (C.1.take (at0 + 1), C.2.1.take (at0 + 1), 0) := by rw [← hgenC] at hin ⊢; exact costG_take (by rw [hgenC]; omega) (by omega) hin.1 hin.2
        refine WC.skip ?_
        refine E.thenN ?_
        refine WC.seq ?_
        refine WC.region ?_
        refine W.any (.move rfl) rfl rfl rfl ?_
        refine W.any (.move rfl) rfl rfl rfl ?_
        have v8 := hV.cutL c at0 (by omega) (by omega) edgeV_row
        have v8l := v8.1
        refine W.any (.cutL (at0) Try.underlying59 sz76 rfl rfl (rfl) (by omega) (by omega)) rfl rfl rfl ?_
        refine W.any (.move rfl) rfl rfl rfl ?_
        refine W.any (.move rfl) rfl rfl rfl ?_
        refine W.ef rfl rfl rfl ?_
        refine Ef.call go33 rfl rfl ((by have q := cost_ok (c := (c - at0)) a x w7_3 (v8.le L7) (by omega); rw [hdrop] at q; exact q)) ?_
        rintro _ w10_5 ⟨Aa10_5, ca10_5, Ab10_5, cb10_5, rfl, oa10_5, ob10_5, h10_5⟩
        refine ⟨_, rfl, ?_⟩
        have L9 := L7.trans h10_5
        have hlen10_5 := oa10_5.1
        have hlem10_5 := ob10_5.1
        have hld10_5 : (C.1.drop at0).length ≤ C.1.length ∧ (C.2.1.drop at0).length ≤ C.2.1.length := by simp; try omega
        refine W.any (.move rfl) rfl rfl rfl ?_
        refine W.any (.extract rfl rfl) rfl rfl rfl ?_
        refine W.any (.extract rfl rfl) rfl rfl rfl ?_
        refine W.any (.extract rfl rfl) rfl rfl rfl ?_
        refine W.any (.assign rfl) rfl rfl rfl ?_
        refine W.any (.assign rfl) rfl rfl rfl ?_
        refine W.any (.assign rfl) rfl rfl rfl ?_
        refine W.nil ?_
        refine E.thenN ?_
        refine WC.seq ?_
        refine WC.draw [0, 1, 2, 3, 4, 5, 6, 7, 8, 9, 10, 11, 12, 13, 14, 15, 16, 17, 18, 19] mixed (by kernel_rfl) ?_
        intro w11 d11
        have L10 := L9.trans d11
        refine G.any rfl rfl (.move rfl) rfl rfl rfl ?_
        refine G.any rfl rfl (.move rfl) rfl rfl rfl ?_
        refine G.any rfl rfl (.add rfl rfl (by omega)) rfl rfl rfl ?_
        have v11 := hV.cutH (at0 + 1) (by omega) edgeV_row
        have v11l := v11.1
        refine G.any rfl rfl (.cutH ((at0 + 1)) Try.underlying59 sz76 rfl rfl (by omega) (by omega)) rfl rfl rfl ?_
        refine G.any rfl rfl (.move rfl) rfl rfl rfl ?_
        refine G.any rfl rfl (.move rfl) rfl rfl rfl ?_
        refine G.any rfl rfl (.idxS (at0) Try.underlying53 sz3 rfl rfl (oa7_3.vec.isSome iv_row (by omega)) (rfl) (by omega)) rfl rfl rfl ?_
        have f12 := (oa7_3.le (h10_5.trans d11))
        refine G.rd rfl rfl (.vone na3 rfl f12.vec iv_row (getS C.1 0 (by first | omega | (simp only [List.length_cons, List.length_nil]; omega))) rfl) rfl rfl rfl ?_
        refine G.any rfl rfl (.move rfl) rfl rfl rfl ?_
        refine G.any rfl rfl (.move rfl) rfl rfl rfl ?_
        refine G.any rfl rfl (.idxS (at0) Try.underlying53 sz3 rfl rfl (ob7_3.vec.isSome iv_row (by omega)) (rfl) (by omega)) rfl rfl rfl ?_
        have f13 := (ob7_3.le (h10_5.trans d11))
        refine G.rd rfl rfl (.vone na3 rfl f13.vec iv_row (getS C.2.1 0 (by first | omega | (simp only [List.length_cons, List.length_nil]; omega))) rfl) rfl rfl rfl ?_
        refine G.ef rfl rfl rfl rfl rfl ?_
        refine Ef.call go33 rfl rfl ((by have q := cost_ok (c := c) (C.1.getD at0 0) (C.2.1.getD at0 0) w11 (v11.le L10) (by omega); rw [htake] at q; exact q)) ?_
        rintro _ w11_12 ⟨Aa11_12, ca11_12, Ab11_12, cb11_12, rfl, oa11_12, ob11_12, h11_12⟩
        refine ⟨_, rfl, ?_⟩
        refine ⟨fun _ => h11_12, ?_⟩
        have L14 := L10.trans h11_12
        have hlen11_12 := oa11_12.1
        have hlem11_12 := ob11_12.1
        have hld11_12 : (C.1.take (at0 + 1)).length ≤ C.1.length ∧ (C.2.1.take (at0 + 1)).length ≤ C.2.1.length := by simp; try omega
        refine G.any rfl rfl (.move rfl) rfl rfl rfl ?_
        refine G.any rfl rfl (.extract rfl rfl) rfl rfl rfl ?_
        refine G.any rfl rfl (.extract rfl rfl) rfl rfl rfl ?_
        refine G.any rfl rfl (.extract rfl rfl) rfl rfl rfl ?_
        refine G.any rfl rfl (.assign rfl) rfl rfl rfl ?_
        refine G.any rfl rfl (.assign rfl) rfl rfl rfl ?_
        refine G.any rfl rfl (.assign rfl) rfl rfl rfl ?_
        refine G.nil ?_
        refine E.thenN ?_
        refine WC.seq ?_
        refine WC.seq ?_
        refine WC.region ?_
        refine W.any (.assign rfl) rfl rfl rfl ?_
        refine W.nil ?_
        refine E.thenN ?_
        refine WC.block ?_
        have f15 := (f12.le h11_12)
        have f16 := (f13.le h11_12)
        have f17 := (oa10_5.le (d11.trans h11_12))
        have f18 := (ob10_5.le (d11.trans h11_12))
        refine WC.loop (ι := Nat) (fun i => [(0, .slice A n c), (9, .bool true), (10, .int .i64 (((at0 : Nat) : Int))), (11, .slice Aa7_3 C.1.length ca7_3), (12, .slice Ab7_3 C.2.1.length cb7_3), (14, .slice Aa10_5 ((C.1.drop at0).length) ca10_5), (15, .slice Ab10_5 ((C.2.1.drop at0).length) cb10_5), (16, .int .i64 (0)), (17, .slice Aa11_12 ((C.1.take (at0 + 1)).length) ca11_12), (18, .slice Ab11_12 ((C.2.1.take (at0 + 1)).length) cb11_12), (19, .int .i64 (0)), (20, .int .i64 (((i : Nat) : Int)))]) (fun i wl0 => (i ≤ n) ∧ Le w wl0 ∧ w11_12.heap.size ≤ wl0.heap.size ∧ OVec wl0 w5_10.heap.size 3 iv 1 Aa7_3 C.1.length ca7_3 C.1 ∧ OVec wl0 w5_10.heap.size 3 iv 1 Ab7_3 C.2.1.length cb7_3 C.2.1 ∧ OVec wl0 w7_3.heap.size 3 iv 1 Aa10_5 ((C.1.drop at0).length) ca10_5 (C.1.drop at0) ∧ OVec wl0 w7_3.heap.size 3 iv 1 Ab10_5 ((C.2.1.drop at0).length) cb10_5 (C.2.1.drop at0) ∧ OVec wl0 w11.heap.size 3 iv 1 Aa11_12 ((C.1.take (at0 + 1)).length) ca11_12 (C.1.take (at0 + 1)) ∧ OVec wl0 w11.heap.size 3 iv 1 Ab11_12 ((C.2.1.take (at0 + 1)).length) cb11_12 (C.2.1.take (at0 + 1))) (fun i => n - i) 0 ?_ ?_ ?_
        · exact .cons rfl (.cons rfl (.cons rfl (.cons rfl (.cons rfl (.cons rfl (.cons rfl (.cons rfl (.cons rfl (.cons rfl (.cons rfl (.cons rfl (.nil _))))))))))))
        · exact ⟨by omega, L14, Nat.le_refl _, f15, f16, f17, f18, oa11_12, ob11_12⟩
        · rintro i wl0 ⟨hi, Ll0, sz0, f0_0, f0_1, f0_2, f0_3, f0_4, f0_5⟩
          have lb0_4 : w5_10.heap.size ≤ wl0.heap.size := by have := h7_3.size; have := h10_5.size; have := d11.size; have := h11_12.size; omega
          have lb0_5 : w5_10.heap.size ≤ wl0.heap.size := by have := h7_3.size; have := h10_5.size; have := d11.size; have := h11_12.size; omega
          have lb0_7 : w7_3.heap.size ≤ wl0.heap.size := by have := h10_5.size; have := d11.size; have := h11_12.size; omega
          have lb0_8 : w7_3.heap.size ≤ wl0.heap.size := by have := h10_5.size; have := d11.size; have := h11_12.size; omega
          have lb0_10 : w11.heap.size ≤ wl0.heap.size := by have := h11_12.size; omega
          have lb0_11 : w11.heap.size ≤ wl0.heap.size := by have := h11_12.size; omega
          refine WC.seq ?_
          refine WC.seq ?_
          refine WC.region ?_
          refine W.any (.move rfl) rfl rfl rfl ?_
          refine W.any (.move rfl) rfl rfl rfl ?_
          refine W.rd (.len Try.underlying59 rfl) rfl rfl rfl ?_
          refine W.any (.lss rfl rfl) rfl rfl rfl ?_
          refine W.nil ?_
          refine E.thenN ?_
          by_cases c3 : ((i : Nat) : Int) < ((n : Nat) : Int)
          · refine WC.condY rfl (decide_eq_true c3) ?_
            refine WC.skip ?_
            refine E.thenN ?_
            refine WC.seq ?_
            refine WC.block ?_
            refine WC.seq ?_
            refine WC.region ?_
            refine W.any (.assign rfl) rfl rfl rfl ?_
            refine W.nil ?_
            refine E.thenN ?_
            refine WC.block ?_
            refine WC.loop (ι := Nat) (fun j => [(0, .slice A n c), (9, .bool true), (10, .int .i64 (((at0 : Nat) : Int))), (11, .slice Aa7_3 C.1.length ca7_3), (12, .slice Ab7_3 C.2.1.length cb7_3), (14, .slice Aa10_5 ((C.1.drop at0).length) ca10_5), (15, .slice Ab10_5 ((C.2.1.drop at0).length) cb10_5), (16, .int .i64 (0)), (17, .slice Aa11_12 ((C.1.take (at0 + 1)).length) ca11_12), (18, .slice Ab11_12 ((C.2.1.take (at0 + 1)).length) cb11_12), (19, .int .i64 (0)), (20, .int .i64 (((i : Nat) : Int))), (21, .int .i64 (((j : Nat) : Int)))]) (fun j wl1 => (j ≤ i) ∧ Le w wl1 ∧ wl0.heap.size ≤ wl1.heap.size ∧ OVec wl1 w5_10.heap.size 3 iv 1 Aa7_3 C.1.length ca7_3 C.1 ∧ OVec wl1 w5_10.heap.size 3 iv 1 Ab7_3 C.2.1.length cb7_3 C.2.1 ∧ OVec wl1 w7_3.heap.size 3 iv 1 Aa10_5 ((C.1.drop at0).length) ca10_5 (C.1.drop at0) ∧ OVec wl1 w7_3.heap.size 3 iv 1 Ab10_5 ((C.2.1.drop at0).length) cb10_5 (C.2.1.drop at0) ∧ OVec wl1 w11.heap.size 3 iv 1 Aa11_12 ((C.1.take (at0 + 1)).length) ca11_12 (C.1.take (at0 + 1)) ∧ OVec wl1 w11.heap.size 3 iv 1 Ab11_12 ((C.2.1.take (at0 + 1)).length) cb11_12 (C.2.1.take (at0 + 1))) (fun j => i - j) 0 ?_ ?_ ?_
            · exact .cons rfl (.cons rfl (.cons rfl (.cons rfl (.cons rfl (.cons rfl (.cons rfl (.cons rfl (.cons rfl (.cons rfl (.cons rfl (.cons rfl (.cons rfl (.nil _)))))))))))))
            · exact ⟨by omega, Ll0, Nat.le_refl _, f0_0, f0_1, f0_2, f0_3, f0_4, f0_5⟩
            · rintro j wl1 ⟨hj, Ll1, sz1, f1_0, f1_1, f1_2, f1_3, f1_4, f1_5⟩
              have lb1_4 : w5_10.heap.size ≤ wl1.heap.size := Nat.le_trans lb0_5 (by omega)
              have lb1_5 : w5_10.heap.size ≤ wl1.heap.size := Nat.le_trans lb0_5 (by omega)
              have lb1_7 : w7_3.heap.size ≤ wl1.heap.size := Nat.le_trans lb0_8 (by omega)
              have lb1_8 : w7_3.heap.size ≤ wl1.heap.size := Nat.le_trans lb0_8 (by omega)
              have lb1_10 : w11.heap.size ≤ wl1.heap.size := Nat.le_trans lb0_11 (by omega)
              have lb1_11 : w11.heap.size ≤ wl1.heap.size := Nat.le_trans lb0_11 (by omega)
              refine WC.seq ?_
              refine WC.seq ?_
              refine WC.region ?_
              refine W.any (.move rfl) rfl rfl rfl ?_
              refine W.any (.move rfl) rfl rfl rfl ?_
              refine W.any (.lss rfl rfl) rfl rfl rfl ?_
              refine W.nil ?_
              refine E.thenN ?_
              by_cases c4 : ((j : Nat) : Int) < ((i : Nat) : Int)
              · refine WC.condY rfl (decide_eq_true c4) ?_
                refine WC.skip ?_
                refine E.thenN ?_
                refine WC.seq ?_
                refine WC.block ?_
                refine WC.seq ?_
                refine WC.draw [0, 1, 2, 3, 4, 5, 6, 7, 8, 9, 10, 11, 12, 13, 14, 15, 16, 17, 18, 19, 20, 21, 22, 23, 24, 25, 26, 27, 28, 29, 30, 31, 32, 33, 34, 35, 36] mixed (by kernel_rfl) ?_
                intro w18 d18
                have L19 := Ll1.trans d18
                refine G.any rfl rfl (.move rfl) rfl rfl rfl ?_
                refine G.any rfl rfl (.move rfl) rfl rfl rfl ?_
                refine G.any rfl rfl (.idxS (j) Try.underlying59 sz76 rfl rfl (hV.isSome edgeV_row (by omega)) (rfl) (by omega)) rfl rfl rfl ?_
                refine G.any rfl rfl (.vfield fa76_0 (hV.isSome edgeV_row (by omega)) rfl) rfl rfl rfl ?_
                refine G.rd rfl rfl (.vcell (j := j) (o := 0) na3 rfl (hV.le L19) edgeV_row (getS xs noEdge (by first | omega | (simp only [List.length_cons, List.length_nil]; omega))) rfl) rfl rfl rfl ?_
                refine G.any rfl rfl (.move rfl) rfl rfl rfl ?_
                refine G.any rfl rfl (.move rfl) rfl rfl rfl ?_
                refine G.any rfl rfl (.idxS (i) Try.underlying59 sz76 rfl rfl (hV.isSome edgeV_row (by omega)) (rfl) (by omega)) rfl rfl rfl ?_
                refine G.any rfl rfl (.vfield fa76_0 (hV.isSome edgeV_row (by omega)) rfl) rfl rfl rfl ?_
                refine G.rd rfl rfl (.vcell (j := i) (o := 0) na3 rfl (hV.le L19) edgeV_row (getS xs noEdge (by first | omega | (simp only [List.length_cons, List.length_nil]; omega))) rfl) rfl rfl rfl ?_
                refine G.any rfl rfl (.eql rfl rfl) rfl rfl rfl ?_
                refine G.any rfl rfl (.dec (.move rfl) (decide_eq_false (way_once hwG (by omega) (by omega)).1)) rfl rfl rfl ?_
                refine G.anyg rfl rfl (.move rfl) rfl rfl rfl (rfl) rfl rfl ?_
                refine G.anyg rfl rfl (.move rfl) rfl rfl rfl (rfl) rfl rfl ?_
                refine G.anyg rfl rfl (.idxS (j) Try.underlying59 sz76 rfl rfl (hV.isSome edgeV_row (by omega)) (rfl) (by omega)) rfl rfl rfl (rfl) rfl rfl ?_
                refine G.anyg rfl rfl (.vfield fa76_1 (hV.isSome edgeV_row (by omega)) rfl) rfl rfl rfl (rfl) rfl rfl ?_
                refine G.rdg rfl rfl (.vcell (j := j) (o := 1) na3 rfl (hV.le L19) edgeV_row (getS xs noEdge (by first | omega | (simp only [List.length_cons, List.length_nil]; omega))) rfl) rfl rfl rfl (rfl) rfl rfl ?_
                refine G.anyg rfl rfl (.move rfl) rfl rfl rfl (rfl) rfl rfl ?_
                refine G.anyg rfl rfl (.move rfl) rfl rfl rfl (rfl) rfl rfl ?_
                refine G.anyg rfl rfl (.idxS (i) Try.underlying59 sz76 rfl rfl (hV.isSome edgeV_row (by omega)) (rfl) (by omega)) rfl rfl rfl (rfl) rfl rfl ?_
                refine G.anyg rfl rfl (.vfield fa76_1 (hV.isSome edgeV_row (by omega)) rfl) rfl rfl rfl (rfl) rfl rfl ?_
                refine G.rdg rfl rfl (.vcell (j := i) (o := 1) na3 rfl (hV.le L19) edgeV_row (getS xs noEdge (by first | omega | (simp only [List.length_cons, List.length_nil]; omega))) rfl) rfl rfl rfl (rfl) rfl rfl ?_
                refine G.anyg rfl rfl (.eql rfl rfl) rfl rfl rfl (rfl) rfl rfl ?_
                refine G.any rfl rfl (.pickF rfl rfl rfl) rfl rfl rfl ?_
                refine G.any rfl rfl (.dec (.move rfl) (decide_eq_false (way_once hwG (by omega) (by omega)).2.1)) rfl rfl rfl ?_
                refine G.anyg rfl rfl (.move rfl) rfl rfl rfl (rfl) rfl rfl ?_
                refine G.anyg rfl rfl (.move rfl) rfl rfl rfl (rfl) rfl rfl ?_
                refine G.anyg rfl rfl (.idxS (j) Try.underlying59 sz76 rfl rfl (hV.isSome edgeV_row (by omega)) (rfl) (by omega)) rfl rfl rfl (rfl) rfl rfl ?_
                refine G.anyg rfl rfl (.vfield fa76_0 (hV.isSome edgeV_row (by omega)) rfl) rfl rfl rfl (rfl) rfl rfl ?_
                refine G.rdg rfl rfl (.vcell (j := j) (o := 0) na3 rfl (hV.le L19) edgeV_row (getS xs noEdge (by first | omega | (simp only [List.length_cons, List.length_nil]; omega))) rfl) rfl rfl rfl (rfl) rfl rfl ?_
                refine G.anyg rfl rfl (.move rfl) rfl rfl rfl (rfl) rfl rfl ?_
                refine G.anyg rfl rfl (.move rfl) rfl rfl rfl (rfl) rfl rfl ?_
                refine G.anyg rfl rfl (.idxS (i) Try.underlying59 sz76 rfl rfl (hV.isSome edgeV_row (by omega)) (rfl) (by omega)) rfl rfl rfl (rfl) rfl rfl ?_
                refine G.anyg rfl rfl (.vfield fa76_1 (hV.isSome edgeV_row (by omega)) rfl) rfl rfl rfl (rfl) rfl rfl ?_
                refine G.rdg rfl rfl (.vcell (j := i) (o := 1) na3 rfl (hV.le L19) edgeV_row (getS xs noEdge (by first | omega | (simp only [List.length_cons, List.length_nil]; omega))) rfl) rfl rfl rfl (rfl) rfl rfl ?_
                refine G.anyg rfl rfl (.eql rfl rfl) rfl rfl rfl (rfl) rfl rfl ?_
                refine G.any rfl rfl (.pickF rfl rfl rfl) rfl rfl rfl ?_
                refine G.nil ?_
                refine E.thenN ?_
                refine WC.condN rfl (decide_eq_false ((way_once hwG (by omega) (by omega)).2.2)) ?_
                refine WC.skip ?_
                refine E.blkN ?_
                refine E.thenN ?_
                refine WC.region ?_
                refine W.any (.move rfl) rfl rfl rfl ?_
                refine W.any (.add rfl rfl (by omega)) rfl rfl rfl ?_
                refine W.any (.assign rfl) rfl rfl rfl ?_
                refine W.nil ?_
                have f20 := (f1_0.le d18)
                have f21 := (f1_1.le d18)
                have f22 := (f1_2.le d18)
                have f23 := (f1_3.le d18)
                have f24 := (f1_4.le d18)
                have f25 := (f1_5.le d18)
                refine E.again (j + 1) (.cons rfl (.cons rfl (.cons rfl (.cons rfl (.cons rfl (.cons rfl (.cons rfl (.cons rfl (.cons rfl (.cons rfl (.cons rfl (.cons rfl (.cons rfl (.nil _)))))))))))))) ?_ ?_
                · exact ⟨by omega, L19, by have := sz1; have := d18.size; omega, f20, f21, f22, f23, f24, f25⟩
                · first | omega | (simp only []; omega)
              · refine WC.condN rfl (decide_eq_false c4) ?_
                refine WC.exit ?_
                refine E.thenX ?_
                refine E.thenX ?_
                refine E.blkH ?_
                refine E.blkN ?_
                refine E.thenN ?_
                refine WC.region ?_
                refine W.any (.move rfl) rfl rfl rfl ?_
                refine W.any (.add rfl rfl (by omega)) rfl rfl rfl ?_
                refine W.any (.assign rfl) rfl rfl rfl ?_
                refine W.nil ?_
                refine E.again (i + 1) (.cons rfl (.cons rfl (.cons rfl (.cons rfl (.cons rfl (.cons rfl (.cons rfl (.cons rfl (.cons rfl (.cons rfl (.cons rfl (.cons rfl (.nil _))))))))))))) ?_ ?_
                · exact ⟨by omega, Ll1, by have := sz0; have := sz1; have := h1_0.size; have := h2_5.size; have := h5_3.size; have := h5_10.size; have := h7_3.size; have := h10_5.size; have := d11.size; have := h11_12.size; omega, f1_0, f1_1, f1_2, f1_3, f1_4, f1_5⟩
                · first | omega | (simp only []; omega)
          · refine WC.condN rfl (decide_eq_false c3) ?_
            refine WC.exit ?_
            refine E.thenX ?_
            refine E.thenX ?_
            refine E.blkH ?_
            refine E.thenN ?_
            refine WC.seq ?_
            refine WC.region ?_
            refine W.any (.move rfl) rfl rfl rfl ?_
            refine W.any (.move rfl) rfl rfl rfl ?_
            refine W.rdg (Any.rd (.move rfl) _) rfl rfl rfl (rfl) rfl rfl ?_
            refine W.rdg (Any.rd (.dec (.eql rfl rfl) (show _ = true from by decide)) _) rfl rfl rfl (rfl) rfl rfl ?_
            refine W.any (.pickT rfl rfl rfl) rfl rfl rfl ?_
            refine W.any (.move rfl) rfl rfl rfl ?_
            refine W.rdg (Any.rd (.move rfl) _) rfl rfl rfl (rfl) rfl rfl ?_
            refine W.rdg (Any.rd (.dec (.eql rfl rfl) (show _ = true from by decide)) _) rfl rfl rfl (rfl) rfl rfl ?_
            refine W.any (.pickT rfl rfl rfl) rfl rfl rfl ?_
            refine W.any (.move rfl) rfl rfl rfl ?_
            refine W.rdg (Any.rd (.move rfl) _) rfl rfl rfl (rfl) rfl rfl ?_
            refine W.rdg (Any.rd (.move rfl) _) rfl rfl rfl (rfl) rfl rfl ?_
            refine W.rdg (Any.rd (.move rfl) _) rfl rfl rfl (rfl) rfl rfl ?_
            have cp26 := f0_0.cap
            have v27 := f0_0.vec.cutL ca7_3 at0 (by omega) (by omega) iv_row
            have v27l := v27.1
            refine W.rdg (Any.rd (.cutL (at0) Try.underlying53 sz3 rfl rfl (rfl) (by omega) (by omega)) _) rfl rfl rfl (rfl) rfl rfl ?_
            refine W.efg rfl rfl rfl (rfl) rfl rfl ?_
            refine Ef.call go37 rfl rfl (ints_ok wl0 f0_2.vec v27 (by omega)) ?_
            rintro _ w20_14 ⟨rfl, h20_14⟩
            refine ⟨_, rfl, ?_⟩
            have L28 := Ll0.trans h20_14
            refine W.any (.pickT rfl rfl rfl) rfl rfl rfl ?_
            refine W.any (.dec (.move rfl) (decide_eq_true rfl)) rfl rfl rfl ?_
            refine W.rdg (Any.rd (.move rfl) _) rfl rfl rfl (rfl) rfl rfl ?_
            refine W.rdg (Any.rd (.move rfl) _) rfl rfl rfl (rfl) rfl rfl ?_
            refine W.rdg (Any.rd (.move rfl) _) rfl rfl rfl (rfl) rfl rfl ?_
            have f29 := (f0_1.le h20_14)
            have cp30 := f29.cap
            have v31 := f29.vec.cutL cb7_3 at0 (by omega) (by omega) iv_row
            have v31l := v31.1
            refine W.rdg (Any.rd (.cutL (at0) Try.underlying53 sz3 rfl rfl (rfl) (by omega) (by omega)) _) rfl rfl rfl (rfl) rfl rfl ?_
            have f32 := (f0_3.le h20_14)
            refine W.efg rfl rfl rfl (rfl) rfl rfl ?_
            refine Ef.call go37 rfl rfl (ints_ok w20_14 f32.vec v31 (by omega)) ?_
            rintro _ w20_21 ⟨rfl, h20_21⟩
            refine ⟨_, rfl, ?_⟩
            have L33 := L28.trans h20_21
            refine W.any (.pickT rfl rfl rfl) rfl rfl rfl ?_
            refine W.any (.dec (.move rfl) (decide_eq_true rfl)) rfl rfl rfl ?_
            refine W.rdg (Any.rd (.move rfl) _) rfl rfl rfl (rfl) rfl rfl ?_
            refine W.rdg (Any.rd (.move rfl) _) rfl rfl rfl (rfl) rfl rfl ?_
            refine W.rdg (Any.rd (.move rfl) _) rfl rfl rfl (rfl) rfl rfl ?_
            refine W.rdg (Any.rd (.add rfl rfl (by omega)) _) rfl rfl rfl (rfl) rfl rfl ?_
            have f34 := (f0_0.le (h20_14.trans h20_21))
            have cp35 := f34.cap
            have v36 := f34.vec.cutH (at0 + 1) (by omega) iv_row
            have v36l := v36.1
            refine W.rdg (Any.rd (.cutH ((at0 + 1)) Try.underlying53 sz3 rfl rfl (by omega) (by omega)) _) rfl rfl rfl (rfl) rfl rfl ?_
            have f37 := (f0_4.le (h20_14.trans h20_21))
            refine W.efg rfl rfl rfl (rfl) rfl rfl ?_
            refine Ef.call go37 rfl rfl (ints_ok w20_21 f37.vec v36 (by omega)) ?_
            rintro _ w20_29 ⟨rfl, h20_29⟩
            refine ⟨_, rfl, ?_⟩
            have L38 := L33.trans h20_29
            refine W.any (.pickT rfl rfl rfl) rfl rfl rfl ?_
            refine W.any (.dec (.move rfl) (decide_eq_true rfl)) rfl rfl rfl ?_
            refine W.rdg (Any.rd (.move rfl) _) rfl rfl rfl (rfl) rfl rfl ?_
            refine W.rdg (Any.rd (.move rfl) _) rfl rfl rfl (rfl) rfl rfl ?_
            refine W.rdg (Any.rd (.move rfl) _) rfl rfl rfl (rfl) rfl rfl ?_
            refine W.rdg (Any.rd (.add rfl rfl (by omega)) _) rfl rfl rfl (rfl) rfl rfl ?_
            have f39 := (f29.le (h20_21.trans h20_29))
            have cp40 := f39.cap
            have v41 := f39.vec.cutH (at0 + 1) (by omega) iv_row
            have v41l := v41.1
            refine W.rdg (Any.rd (.cutH ((at0 + 1)) Try.underlying53 sz3 rfl rfl (by omega) (by omega)) _) rfl rfl rfl (rfl) rfl rfl ?_
            have f42 := (f0_5.le (h20_14.trans (h20_21.trans h20_29)))
            refine W.efg rfl rfl rfl (rfl) rfl rfl ?_
            refine Ef.call go37 rfl rfl (ints_ok w20_29 f42.vec v41 (by omega)) ?_
            rintro _ w20_37 ⟨rfl, h20_37⟩
            refine ⟨_, rfl, ?_⟩
            have L43 := L38.trans h20_37
            refine W.any (.pickT rfl rfl rfl) rfl rfl rfl ?_
            refine W.any (.assign rfl) rfl rfl rfl ?_
            refine W.nil ?_
            refine E.thenN ?_
            refine WC.ret ?_
            refine E.retG1 rfl rfl ?_
            exact ⟨by simp, L43⟩
    · refine WC.condY rfl (congrArg not ((Bool.eq_false_iff.2 c0))) ?_
      refine WC.seq ?_
      refine WC.region ?_
      refine W.any (.move rfl) rfl rfl rfl ?_
      refine W.any (.assign rfl) rfl rfl rfl ?_
      refine W.nil ?_
      refine E.thenN ?_
      refine WC.ret ?_
      refine E.thenR ?_
      refine E.retG1 rfl rfl ?_
      exact ⟨rfl, L2⟩
end Go.Proofs.Ytfgakofjkldcjaa
