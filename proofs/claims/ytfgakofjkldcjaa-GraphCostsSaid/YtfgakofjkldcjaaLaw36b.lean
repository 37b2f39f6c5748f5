/- The statement GraphCosts walked: it answers true and leaves old memory as it was. -/
import Derived.Test.YtfgakofjkldcjaaSmall36
import Derived.Test.YtfgakofjkldcjaaGsp4
import Derived.Test.YtfgakofjkldcjaaRef36b
namespace Go.Proofs.Ytfgakofjkldcjaa
open Go Go.Sx Go.Hsp Go.Num Go.Osp Go.Gsp
set_option maxRecDepth 20000
set_option linter.unusedSimpArgs false
set_option linter.unusedVariables false
theorem GraphCosts_ok (a x : Int) {A Ap Ab : Option Addr} {n c np cp nb cb : Nat} {xs : List Gsp.Edge} {pts bl : List Nat} (w : World) (hV : Vec w edgeV 9 A n xs) (hnc : n ≤ c) (hn0 : n ≤ 9223372036854775807) (hP : Vec w pv1 1 Ap np pts) (hnp : np ≤ 9223372036854775807) (hB : Vec w pv1 1 Ab nb bl) (hnb : nb ≤ 9223372036854775807) : Calls Try.prog 6 #[.slice A n c, .int .i64 (a), .int .i64 (x), .agg #[.slice Ap np cp, .slice Ab nb cb]] w fun r w' => r = .returned (.bool true) ∧ Le w w' := by
  have hl := hV.1
  have hlp := hP.1
  have hlb := hB.1
  refine enter Try.func6 rfl rfl ?_
  have L0 := Le.refl w
  refine WC.seq ?_
  refine WC.region ?_
  refine W.ef rfl rfl rfl ?_
  refine Ef.boxA rfl ?_
  intro g0_0 w0_0 hg0_0 b0_0 h0_0
  have L1 := L0.trans h0_0
  have b0_0 : Blk w0_0 g0_0 63 #[.slice Ap np cp, .slice Ab nb cb] := b0_0
  refine W.any (.assign rfl) rfl rfl rfl ?_
  refine W.nil ?_
  refine E.thenN ?_
  refine WC.seq ?_
  refine WC.region ?_
  refine W.ef rfl rfl rfl ?_
  refine Ef.call go32 rfl rfl (small36_ok w0_0) ?_
  rintro _ w1_0 ⟨rfl, h1_0⟩
  refine ⟨_, rfl, ?_⟩
  have L2 := L1.trans h1_0
  refine W.any (.assign rfl) rfl rfl rfl ?_
  refine W.nil ?_
  refine E.thenN ?_
  refine WC.seq ?_
  refine WC.seq ?_
  refine WC.region ?_
  refine W.any (.move rfl) rfl rfl rfl ?_
  refine W.rd (.len Try.underlying59 rfl) rfl rfl rfl ?_
  refine W.any (.gtr rfl rfl) rfl rfl rfl ?_
  by_cases q2_3 : 20 < ((n : Nat) : Int)
  · refine W.any (.dec (.move rfl) (decide_eq_true q2_3)) rfl rfl rfl ?_
    refine W.skip rfl rfl rfl (rfl) rfl rfl ?_
    refine W.skip rfl rfl rfl (rfl) rfl rfl ?_
    refine W.skip rfl rfl rfl (rfl) rfl rfl ?_
    refine W.skip rfl rfl rfl (rfl) rfl rfl ?_
    refine W.any (.pickT rfl rfl rfl) rfl rfl rfl ?_
    refine W.any (.move rfl) rfl rfl rfl ?_
    refine W.skip rfl rfl rfl (rfl) rfl rfl ?_
    refine W.skip rfl rfl rfl (rfl) rfl rfl ?_
    refine W.skip rfl rfl rfl (rfl) rfl rfl ?_
    refine W.skip rfl rfl rfl (rfl) rfl rfl ?_
    refine W.any (.pickT rfl rfl rfl) rfl rfl rfl ?_
    refine W.nil ?_
    refine E.thenN ?_
    refine WC.condT rfl ?_
    refine WC.seq ?_
    refine WC.region ?_
    refine W.any (.move rfl) rfl rfl rfl ?_
    refine W.any (.assign rfl) rfl rfl rfl ?_
    refine W.nil ?_
    refine E.thenN ?_
    refine WC.ret ?_
    refine E.thenR ?_
    refine E.retG1 rfl rfl ?_
    exact ⟨rfl, L2⟩
  · refine W.any (.dec (.move rfl) (decide_eq_false q2_3)) rfl rfl rfl ?_
    refine W.rdg (Any.rd (.field0 fa63_0 rfl) _) rfl rfl rfl (rfl) rfl rfl ?_
    have f3 := (b0_0.le h1_0)
    refine W.rdg (.loadB na60 rfl f3 rfl) rfl rfl rfl (rfl) rfl rfl ?_
    refine W.rdg (.len Try.underlying60 rfl) rfl rfl rfl (rfl) rfl rfl ?_
    refine W.rdg (Any.rd (.gtr rfl rfl) _) rfl rfl rfl (rfl) rfl rfl ?_
    refine W.any (.pickF rfl rfl rfl) rfl rfl rfl ?_
    by_cases q2_9 : 20 < ((np : Nat) : Int)
    · refine W.any (.dec (.move rfl) (decide_eq_true q2_9)) rfl rfl rfl ?_
      refine W.skip rfl rfl rfl (rfl) rfl rfl ?_
      refine W.skip rfl rfl rfl (rfl) rfl rfl ?_
      refine W.skip rfl rfl rfl (rfl) rfl rfl ?_
      refine W.skip rfl rfl rfl (rfl) rfl rfl ?_
      refine W.any (.pickT rfl rfl rfl) rfl rfl rfl ?_
      refine W.nil ?_
      refine E.thenN ?_
      refine WC.condT rfl ?_
      refine WC.seq ?_
      refine WC.region ?_
      refine W.any (.move rfl) rfl rfl rfl ?_
      refine W.any (.assign rfl) rfl rfl rfl ?_
      refine W.nil ?_
      refine E.thenN ?_
      refine WC.ret ?_
      refine E.thenR ?_
      refine E.retG1 rfl rfl ?_
      exact ⟨rfl, L2⟩
    · refine W.any (.dec (.move rfl) (decide_eq_false q2_9)) rfl rfl rfl ?_
      refine W.rdg (Any.rd (.field0 fa63_1 rfl) _) rfl rfl rfl (rfl) rfl rfl ?_
      refine W.rdg (.loadB na61 rfl f3 rfl) rfl rfl rfl (rfl) rfl rfl ?_
      refine W.rdg (.len Try.underlying61 rfl) rfl rfl rfl (rfl) rfl rfl ?_
      refine W.rdg (Any.rd (.gtr rfl rfl) _) rfl rfl rfl (rfl) rfl rfl ?_
      refine W.any (.pickF rfl rfl rfl) rfl rfl rfl ?_
      refine W.nil ?_
      refine E.thenN ?_
      by_cases c0 : 20 < ((nb : Nat) : Int)
      · refine WC.condY rfl (decide_eq_true c0) ?_
        refine WC.seq ?_
        refine WC.region ?_
        refine W.any (.move rfl) rfl rfl rfl ?_
        refine W.any (.assign rfl) rfl rfl rfl ?_
        refine W.nil ?_
        refine E.thenN ?_
        refine WC.ret ?_
        refine E.thenR ?_
        refine E.retG1 rfl rfl ?_
        exact ⟨rfl, L2⟩
      · refine WC.condN rfl (decide_eq_false c0) ?_
        refine WC.skip ?_
        refine E.thenN ?_
        refine WC.seq ?_
        refine WC.region ?_
        refine W.any (.move rfl) rfl rfl rfl ?_
        refine W.any (.move rfl) rfl rfl rfl ?_
        refine W.any (.move rfl) rfl rfl rfl ?_
        refine W.ef rfl rfl rfl ?_
        refine Ef.call go33 rfl rfl (cost_ok a x w1_0 (hV.le L2) (by omega)) ?_
        rintro _ w4_3 ⟨Aa4_3, ca4_3, Ab4_3, cb4_3, rfl, oa4_3, ob4_3, h4_3⟩
        refine ⟨_, rfl, ?_⟩
        have L4 := L2.trans h4_3
        have hshC := costG_short xs a x
        have hcsC := fun h => @costs_of a x xs h
        have hcbC := @costG_bad xs a x
        generalize hgenC : costG xs a x = C at *
        refine W.any (.move rfl) rfl rfl rfl ?_
        refine W.any (.extract rfl rfl) rfl rfl rfl ?_
        refine W.any (.extract rfl rfl) rfl rfl rfl ?_
        refine W.any (.extract rfl rfl) rfl rfl rfl ?_
        refine W.any (.assign rfl) rfl rfl rfl ?_
        refine W.any (.assign rfl) rfl rfl rfl ?_
        refine W.any (.assign rfl) rfl rfl rfl ?_
        refine W.nil ?_
        refine E.thenN ?_
        refine WC.seq ?_
        refine WC.region ?_
        refine W.any (.move rfl) rfl rfl rfl ?_
        refine W.any (.move rfl) rfl rfl rfl ?_
        refine W.any (.move rfl) rfl rfl rfl ?_
        refine W.ef rfl rfl rfl ?_
        refine Ef.call go34 rfl rfl ((by have q := rcost_ok (c := c) a x w4_3 (hV.le L4) (by omega); rw [hgenC] at q; exact q)) ?_
        rintro _ w5_3 ⟨Aa5_3, ca5_3, Ab5_3, cb5_3, rfl, oa5_3, ob5_3, h5_3⟩
        refine ⟨_, rfl, ?_⟩
        have L5 := L4.trans h5_3
        refine W.any (.move rfl) rfl rfl rfl ?_
        refine W.any (.extract rfl rfl) rfl rfl rfl ?_
        refine W.any (.extract rfl rfl) rfl rfl rfl ?_
        refine W.any (.extract rfl rfl) rfl rfl rfl ?_
        refine W.any (.assign rfl) rfl rfl rfl ?_
        refine W.any (.assign rfl) rfl rfl rfl ?_
        refine W.any (.assign rfl) rfl rfl rfl ?_
        refine W.nil ?_
        refine E.thenN ?_
        refine WC.seq ?_
        refine WC.region ?_
        refine W.any (.move rfl) rfl rfl rfl ?_
        refine W.any (.move rfl) rfl rfl rfl ?_
        refine W.any (.move rfl) rfl rfl rfl ?_
        have f6 := (f3.le (h4_3.trans h5_3))
        refine W.rd (.loadAll ag63 (by rfl) rfl f6) rfl rfl rfl ?_
        refine W.ef rfl rfl rfl ?_
        refine Ef.call go35 rfl rfl (hops_ok a x w5_3 (hV.le L5) (by omega) (hP.le L5) (by omega) (hB.le L5) (by omega) (by omega)) ?_
        rintro _ w6_4 ⟨Ah6_4, ch6_4, rfl, oh6_4, h6_4⟩
        refine ⟨_, rfl, ?_⟩
        have L7 := L5.trans h6_4
        have hshG := hopsG_short xs a x pts bl
        generalize hgenG : hopsG xs a x pts bl = G at *
        refine W.any (.move rfl) rfl rfl rfl ?_
        refine W.any (.extract rfl rfl) rfl rfl rfl ?_
        refine W.any (.extract rfl rfl) rfl rfl rfl ?_
        refine W.any (.assign rfl) rfl rfl rfl ?_
        refine W.any (.assign rfl) rfl rfl rfl ?_
        refine W.nil ?_
        refine E.thenN ?_
        refine WC.seq ?_
        refine WC.region ?_
        refine W.any (.move rfl) rfl rfl rfl ?_
        refine W.any (.move rfl) rfl rfl rfl ?_
        refine W.any (.move rfl) rfl rfl rfl ?_
        refine W.any (.field0 fa63_0 rfl) rfl rfl rfl ?_
        have f8 := (f6.le h6_4)
        refine W.rd (.loadB na60 rfl f8 rfl) rfl rfl rfl ?_
        refine W.any (.field0 fa63_1 rfl) rfl rfl rfl ?_
        refine W.rd (.loadB na61 rfl f8 rfl) rfl rfl rfl ?_
        refine W.ef rfl rfl rfl ?_
        refine Ef.call go36 rfl rfl ((by have q := rhops_ok (c := c) (cp := cp) (cb := cb) a x w6_4 (hV.le L7) (by omega) (hP.le L7) (by omega) (hB.le L7) (by omega); rw [hgenG] at q; exact q)) ?_
        rintro _ w7_7 ⟨Ah7_7, ch7_7, rfl, oh7_7, h7_7⟩
        refine ⟨_, rfl, ?_⟩
        have L9 := L7.trans h7_7
        refine W.any (.move rfl) rfl rfl rfl ?_
        refine W.any (.extract rfl rfl) rfl rfl rfl ?_
        refine W.any (.extract rfl rfl) rfl rfl rfl ?_
        refine W.any (.assign rfl) rfl rfl rfl ?_
        refine W.any (.assign rfl) rfl rfl rfl ?_
        refine W.nil ?_
        refine E.thenN ?_
        refine WC.seq ?_
        refine WC.region ?_
        refine W.any (.move rfl) rfl rfl rfl ?_
        refine W.any (.move rfl) rfl rfl rfl ?_
        refine W.rdg (Any.rd (.move rfl) _) rfl rfl rfl (rfl) rfl rfl ?_
        refine W.rdg (Any.rd (.move rfl) _) rfl rfl rfl (rfl) rfl rfl ?_
        have f10 := (oa4_3.le (h5_3.trans (h6_4.trans h7_7)))
        have f11 := (oa5_3.le (h6_4.trans h7_7))
        refine W.efg rfl rfl rfl (rfl) rfl rfl ?_
        refine Ef.call go37 rfl rfl (ints_ok w7_7 f10.vec f11.vec (by omega)) ?_
        rintro _ w8_4 ⟨rfl, h8_4⟩
        refine ⟨_, rfl, ?_⟩
        have L12 := L9.trans h8_4
        refine W.any (.pickT rfl rfl rfl) rfl rfl rfl ?_
        refine W.any (.dec (.move rfl) (decide_eq_true rfl)) rfl rfl rfl ?_
        refine W.rdg (Any.rd (.move rfl) _) rfl rfl rfl (rfl) rfl rfl ?_
        refine W.rdg (Any.rd (.move rfl) _) rfl rfl rfl (rfl) rfl rfl ?_
        have f13 := (ob4_3.le (h5_3.trans (h6_4.trans (h7_7.trans h8_4))))
        have f14 := (ob5_3.le (h6_4.trans (h7_7.trans h8_4)))
        refine W.efg rfl rfl rfl (rfl) rfl rfl ?_
        refine Ef.call go37 rfl rfl (ints_ok w8_4 f13.vec f14.vec (by omega)) ?_
        rintro _ w8_9 ⟨rfl, h8_9⟩
        refine ⟨_, rfl, ?_⟩
        have L15 := L12.trans h8_9
        refine W.any (.pickT rfl rfl rfl) rfl rfl rfl ?_
        refine W.any (.dec (.move rfl) (decide_eq_true rfl)) rfl rfl rfl ?_
        refine W.rdg (Any.rd (.move rfl) _) rfl rfl rfl (rfl) rfl rfl ?_
        refine W.rdg (Any.rd (.move rfl) _) rfl rfl rfl (rfl) rfl rfl ?_
        refine W.rdg (Any.rd (.eql rfl rfl) _) rfl rfl rfl (rfl) rfl rfl ?_
        refine W.any (.pickT rfl rfl rfl) rfl rfl rfl ?_
        refine W.any (.dec (.move rfl) (decide_eq_true rfl)) rfl rfl rfl ?_
        refine W.rdg (Any.rd (.move rfl) _) rfl rfl rfl (rfl) rfl rfl ?_
        refine W.rdg (Any.rd (.move rfl) _) rfl rfl rfl (rfl) rfl rfl ?_
        have f16 := (oh6_4.le (h7_7.trans (h8_4.trans h8_9)))
        have f17 := (oh7_7.le (h8_4.trans h8_9))
        refine W.efg rfl rfl rfl (rfl) rfl rfl ?_
        refine Ef.call go38 rfl rfl (allhops_ok w8_9 f16.vec f17.vec (by omega)) ?_
        rintro _ w8_19 ⟨rfl, h8_19⟩
        refine ⟨_, rfl, ?_⟩
        have L18 := L15.trans h8_19
        refine W.any (.pickT rfl rfl rfl) rfl rfl rfl ?_
        refine W.any (.dec (.move rfl) (decide_eq_true rfl)) rfl rfl rfl ?_
        refine W.rdg (Any.rd (.move rfl) _) rfl rfl rfl (rfl) rfl rfl ?_
        refine W.rdg (Any.rd (.move rfl) _) rfl rfl rfl (rfl) rfl rfl ?_
        refine W.rdg (Any.rd (.eql rfl rfl) _) rfl rfl rfl (rfl) rfl rfl ?_
        refine W.any (.pickT rfl rfl rfl) rfl rfl rfl ?_
        refine W.any (.assign rfl) rfl rfl rfl ?_
        refine W.nil ?_
        refine E.thenN ?_
        refine WC.ret ?_
        refine E.retG1 rfl rfl ?_
        exact ⟨by simp, L18⟩
end Go.Proofs.Ytfgakofjkldcjaa
