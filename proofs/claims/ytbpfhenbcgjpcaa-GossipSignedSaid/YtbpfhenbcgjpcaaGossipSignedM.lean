/- GossipSigned: for every input the law answers true and leaves its arguments as they were. -/
import Derived.Test.YtbpfhenbcgjpcaaGossipSignedL
import Derived.OrdersHeld
import Derived.WalkKit
import Derived.Deep.AppendSrc
import Derived.Deep.MidRow
import Derived.Laws.OwnMore
import Derived.WalkSpells
import Derived.Lib.ConvBytes
import Derived.Lib.AppendZerosOnto
import Derived.Laws.StructEq
import Derived.Maps.RangeRun
import Derived.Laws.Pointers
import Derived.Test.YtbpfhenbcgjpcaaProg
import Derived.KernelRfl
import Derived.Lib.Mul64
import Derived.Shelf.SlSortCmp.NoneTotal
import Derived.Lib.QuietBelow
import Derived.Ground.SlsfProg
import Derived.ProofKit
import Derived.OpenShut
import Derived.ShutString
import Derived.ChangeOld
import Derived.Below
import Derived.Deep.Slices
namespace Go.Proofs.Ytbpfhenbcgjpcaa
open Go Go.Sx Go.Hsp Go.Num Go.Osp Go.Gsp Go.Asp Go.Bsp
set_option maxRecDepth 20000
set_option linter.unusedSimpArgs false
set_option linter.unusedVariables false

def oth (o a : Asp.Ad) : Asp.Ad := { o with sg := a.sg }
theorem ver_none (p k : Nat) {x : Gsp.Edge} {no : Int} {g : Bool} (h : mayA x no = false) : verifyA p (signA k x no g) = false := by
  rw [sg_none h]
  unfold verifyA
  rw [show mayA noAd.e noAd.no = false from by decide]
  rfl
theorem sg_ver {k : Nat} {x : Gsp.Edge} {no : Int} {g : Bool} (h : mayA x no = true) (hn : ¬ (signA k x no g).sg = noSig) : verifyA (base k) (signA k x no g) = true := by
  cases hk : keyB k
  · exfalso
    apply hn
    unfold signA signB
    rw [if_pos h, if_neg (by rw [hk]; simp)]
  · exact signA_holds hk h g
theorem ver_same {p : Nat} {o a : Asp.Ad} (h1 : mayA o.e o.no = true) (h2 : mayA a.e a.no = true) (hs : sumA (oth o a).e (oth o a).no (oth o a).gone = sumA a.e a.no a.gone) : verifyA p (oth o a) = verifyA p a := by
  unfold verifyA
  rw [hs, h2]
  show (mayA o.e o.no && _) = _
  rw [h1]
  rfl
theorem sg_sum {k : Nat} {x : Gsp.Edge} {no : Int} {g : Bool} (h : mayA x no = true) : sumA (signA k x no g).e (signA k x no g).no (signA k x no g).gone = sumA x no g := by rw [sg_e h, sg_no h, sg_gone h]
theorem may_of {x : Gsp.Edge} {no : Int} (h1 : edgeA x = true) (h2 : 1 ≤ no) (h3 : no ≤ 1048576) : mayA x no = true := by
  unfold mayA
  rw [h1, inB_T.2 ⟨h2, h3⟩]
  rfl
set_option maxHeartbeats 2000000 in
theorem GossipSigned_ok (k : Nat) (x : Gsp.Edge) (no : Int) (gone : Bool) (other : Asp.Ad) (w : World) : Calls Try.prog 6 #[.int .u64 (((k : Nat) : Int)), .agg (edgeV x).toArray, .int .i64 (no), .bool (gone), .agg (adV other).toArray] w fun r w' => r = .returned (.bool true) ∧ Le w w' := by
  refine enter Try.func6 rfl rfl ?_
  have L0 := Le.refl w
  refine WC.seq ?_
  refine WC.region ?_
  refine W.ef rfl rfl rfl ?_
  refine Ef.boxA rfl ?_
  intro g0_0 w0_0 hg0_0 b0_0 h0_0
  have L1 := L0.trans h0_0
  have b0_0 : Blk w0_0 g0_0 34 (edgeV x).toArray := b0_0
  refine W.ef rfl rfl rfl ?_
  refine Ef.boxA rfl ?_
  intro g0_1 w0_1 hg0_1 b0_1 h0_1
  have L2 := L1.trans h0_1
  have b0_1 : Blk w0_1 g0_1 41 (adV other).toArray := b0_1
  refine W.any (.assign rfl) rfl rfl rfl ?_
  refine W.nil ?_
  refine E.thenN ?_
  refine WC.seq ?_
  refine WC.region ?_
  refine W.ef rfl rfl rfl ?_
  refine Ef.call go7 rfl rfl (small35_ok w0_1) ?_
  rintro _ w1_0 ⟨rfl, h1_0⟩
  refine ⟨_, rfl, ?_⟩
  have L3 := L2.trans h1_0
  refine W.any (.assign rfl) rfl rfl rfl ?_
  refine W.nil ?_
  refine E.thenN ?_
  refine WC.seq ?_
  refine WC.region ?_
  refine W.any (.move rfl) rfl rfl rfl ?_
  have f4 := (b0_0.le (h0_1.trans h1_0))
  refine W.rd (.loadAll ag34 (by rfl) rfl f4) rfl rfl rfl ?_
  refine W.any (.move rfl) rfl rfl rfl ?_
  refine W.any (.move rfl) rfl rfl rfl ?_
  refine W.ef rfl rfl rfl ?_
  refine Ef.call go15 rfl rfl (asign_ok k x no gone w1_0) ?_
  rintro _ w2_4 ⟨rfl, h2_4⟩
  refine ⟨_, rfl, ?_⟩
  have L5 := L3.trans h2_4
  refine W.ef rfl rfl rfl ?_
  refine Ef.allocA z41 ?_
  intro g2_5 w2_5 hg2_5 b2_5 h2_5
  have L6 := L5.trans h2_5
  have b2_5 : Blk w2_5 g2_5 41 (adV noAd).toArray := b2_5
  refine W.ef0 rfl rfl ?_
  refine Ef.storeAll sz41 (by rfl) rfl rfl b2_5 (by simp only [List.size_toArray, adV_row.len]) (adV_row.one (signA k x no gone)) ?_
  intro w2_6 b2_6 h2_6
  have b2_6 : Blk w2_6 g2_5 41 (adV (signA k x no gone)).toArray := b2_6
  have L7 : Le w w2_6 := L6.then_ h2_6 (fun q hq => by cases hq; exact Nat.le_trans L5.size hg2_5)
  refine W.nil ?_
  refine E.thenN ?_
  refine WC.seq ?_
  refine WC.region ?_
  have f8 := ((f4.le (h2_4.trans h2_5)).ch h2_6 (fun h => (show g2_5 ≠ g0_0 from by have := f4.lt; have := h2_4.size; omega) (Option.some.inj h)))
  refine W.rd (.loadAll ag34 (by rfl) rfl f8) rfl rfl rfl ?_
  refine W.ef rfl rfl rfl ?_
  refine Ef.call go12 rfl rfl (aright_ok x w2_6) ?_
  rintro _ w3_1 ⟨rfl, h3_1⟩
  refine ⟨_, rfl, ?_⟩
  have L9 := L7.trans h3_1
  by_cases q3_2 : (edgeA x) = true
  · refine W.any (.dec (.move rfl) (q3_2)) rfl rfl rfl ?_
    refine W.rdg (Any.rd (.move rfl) _) rfl rfl rfl (rfl) rfl rfl ?_
    refine W.rdg (Any.rd (.geq rfl rfl) _) rfl rfl rfl (rfl) rfl rfl ?_
    refine W.any (.pickT rfl rfl rfl) rfl rfl rfl ?_
    by_cases q3_6 : 1 ≤ no
    · refine W.any (.dec (.move rfl) (decide_eq_true q3_6)) rfl rfl rfl ?_
      refine W.rdg (Any.rd (.move rfl) _) rfl rfl rfl (rfl) rfl rfl ?_
      refine W.rdg (Any.rd (.leq rfl rfl) _) rfl rfl rfl (rfl) rfl rfl ?_
      refine W.any (.pickT rfl rfl rfl) rfl rfl rfl ?_
      refine W.any (.assign rfl) rfl rfl rfl ?_
      refine W.nil ?_
      refine E.thenN ?_
      refine WC.seq ?_
      refine WC.seq ?_
      refine WC.region ?_
      refine W.any (.move rfl) rfl rfl rfl ?_
      refine W.any (.not rfl) rfl rfl rfl ?_
      refine W.nil ?_
      refine E.thenN ?_
      by_cases c0 : no ≤ 1048576
      · refine WC.condN rfl (congrArg not (decide_eq_true c0)) ?_
        have hm : mayA x no = true := may_of (by assumption) (by omega) (by omega)
        refine WC.skip ?_
        refine E.thenN ?_
        refine WC.seq ?_
        refine WC.region ?_
        refine W.any (.move rfl) rfl rfl rfl ?_
        refine W.ef rfl rfl rfl ?_
        refine Ef.call go14 rfl rfl (base_ok k w3_1) ?_
        rintro _ w6_1 ⟨rfl, h6_1⟩
        refine ⟨_, rfl, ?_⟩
        have L10 := L9.trans h6_1
        refine W.any (.assign rfl) rfl rfl rfl ?_
        refine W.nil ?_
        refine E.thenN ?_
        refine WC.seq ?_
        refine WC.region ?_
        refine W.any (.field0 fa41_3 rfl) rfl rfl rfl ?_
        have f11 := (b2_6.le (h3_1.trans h6_1))
        refine W.rd (.bpart (sigV ((signA k x no gone).sg)) ag39 rfl (by decide) rfl f11 rfl) rfl rfl rfl ?_
        refine W.any (.field0 fa41_3 rfl) rfl rfl rfl ?_
        have f12 := (((b0_1.le (h1_0.trans (h2_4.trans h2_5))).ch h2_6 (fun h => (show g2_5 ≠ g0_1 from by have := b0_1.lt; have := h1_0.size; have := h2_4.size; omega) (Option.some.inj h))).le (h3_1.trans h6_1))
        refine W.ef0 rfl rfl ?_
        refine Ef.storePart (adV (oth other (signA k x no gone))) sz39 (by rfl) rfl rfl f12 (by simp [adV_row.len, sigV_row.len]) (sigV_row.one ((signA k x no gone).sg)) rfl ?_
        intro w7_3 b7_3 h7_3
        have b7_3 : Blk w7_3 g0_1 41 (adV (oth other (signA k x no gone))).toArray := b7_3
        have L13 : Le w w7_3 := L10.then_ h7_3 (fun q hq => by cases hq; exact Nat.le_trans L1.size hg0_1)
        refine W.nil ?_
        refine E.thenN ?_
        refine WC.seq ?_
        refine WC.draw [0, 1, 2, 3, 4, 5, 6, 7, 8, 9, 10, 11, 12, 13, 14, 15, 16, 17, 18, 19, 21, 22, 23, 20, 24, 25, 26, 27] mixed (by kernel_rfl) ?_
        intro w8 d8
        have L14 := L13.trans d8
        refine G.any rfl rfl (.field0 fa41_0 rfl) rfl rfl rfl ?_
        have f15 := (b7_3.le d8)
        refine G.rd rfl rfl (.bpart (edgeV ((oth other (signA k x no gone)).e)) ag34 rfl (by decide) rfl f15 rfl) rfl rfl rfl ?_
        refine G.ef rfl rfl rfl rfl rfl ?_
        refine Ef.call go12 rfl rfl (aright_ok ((oth other (signA k x no gone)).e) w8) ?_
        rintro _ w8_2 ⟨rfl, h8_2⟩
        refine ⟨_, rfl, ?_⟩
        refine ⟨fun _ => h8_2, ?_⟩
        have L16 := L14.trans h8_2
        by_cases q8_3 : (edgeA ((oth other (signA k x no gone)).e)) = true
        · refine G.any rfl rfl (.dec (.move rfl) (q8_3)) rfl rfl rfl ?_
          refine G.anyg rfl rfl (.field0 fa41_1 rfl) rfl rfl rfl (rfl) rfl rfl ?_
          have f17 := (f15.le h8_2)
          refine G.rdg rfl rfl (.loadB (v := .int .i64 ((oth other (signA k x no gone)).no)) na3 rfl f17 rfl) rfl rfl rfl (rfl) rfl rfl ?_
          refine G.anyg rfl rfl (.geq rfl rfl) rfl rfl rfl (rfl) rfl rfl ?_
          refine G.any rfl rfl (.pickT rfl rfl rfl) rfl rfl rfl ?_
          by_cases q8_8 : 1 ≤ ((oth other (signA k x no gone)).no)
          · refine G.any rfl rfl (.dec (.move rfl) (decide_eq_true q8_8)) rfl rfl rfl ?_
            refine G.anyg rfl rfl (.field0 fa41_1 rfl) rfl rfl rfl (rfl) rfl rfl ?_
            refine G.rdg rfl rfl (.loadB (v := .int .i64 ((oth other (signA k x no gone)).no)) na3 rfl f17 rfl) rfl rfl rfl (rfl) rfl rfl ?_
            refine G.anyg rfl rfl (.leq rfl rfl) rfl rfl rfl (rfl) rfl rfl ?_
            refine G.any rfl rfl (.pickT rfl rfl rfl) rfl rfl rfl ?_
            by_cases q8_13 : ((oth other (signA k x no gone)).no) ≤ 1048576
            · refine G.any rfl rfl (.dec (.move rfl) (decide_eq_true q8_13)) rfl rfl rfl ?_
              refine G.anyg rfl rfl (.field0 fa41_0 rfl) rfl rfl rfl (rfl) rfl rfl ?_
              refine G.rdg rfl rfl (.bpart (edgeV ((oth other (signA k x no gone)).e)) ag34 rfl (by decide) rfl f17 rfl) rfl rfl rfl (rfl) rfl rfl ?_
              refine G.anyg rfl rfl (.field0 fa41_1 rfl) rfl rfl rfl (rfl) rfl rfl ?_
              refine G.rdg rfl rfl (.loadB (v := .int .i64 ((oth other (signA k x no gone)).no)) na3 rfl f17 rfl) rfl rfl rfl (rfl) rfl rfl ?_
              refine G.anyg rfl rfl (.field0 fa41_2 rfl) rfl rfl rfl (rfl) rfl rfl ?_
              refine G.rdg rfl rfl (.loadB (v := .bool ((oth other (signA k x no gone)).gone)) na4 rfl f17 rfl) rfl rfl rfl (rfl) rfl rfl ?_
              have f18 := (((f8.le (h3_1.trans h6_1)).ch h7_3 (fun h => (show g0_1 ≠ g0_0 from by have := b0_0.lt; omega) (Option.some.inj h))).le (d8.trans h8_2))
              refine G.rdg rfl rfl (.loadAll ag34 (by rfl) rfl f18) rfl rfl rfl (rfl) rfl rfl ?_
              refine G.anyg rfl rfl (.move rfl) rfl rfl rfl (rfl) rfl rfl ?_
              refine G.anyg rfl rfl (.move rfl) rfl rfl rfl (rfl) rfl rfl ?_
              refine G.efg rfl rfl rfl rfl rfl (rfl) rfl rfl ?_
              refine Ef.call go17 rfl rfl (asum_ok ((oth other (signA k x no gone)).e) ((oth other (signA k x no gone)).no) ((oth other (signA k x no gone)).gone) w8_2) ?_
              rintro _ w8_20 ⟨rfl, h8_20⟩
              refine ⟨_, rfl, ?_⟩
              refine ⟨fun _ => h8_20, ?_⟩
              have L19 := L16.trans h8_20
              refine G.efg rfl rfl rfl rfl rfl (rfl) rfl rfl ?_
              refine Ef.call go17 rfl rfl (asum_ok x no gone w8_20) ?_
              rintro _ w8_24 ⟨rfl, h8_24⟩
              refine ⟨_, rfl, ?_⟩
              refine ⟨fun _ => h8_24, ?_⟩
              have L20 := L19.trans h8_24
              refine G.anyg rfl rfl (.eqA eg58 rfl rfl (Eqv.bytes (d := 9998) (sumA ((oth other (signA k x no gone)).e) ((oth other (signA k x no gone)).no) ((oth other (signA k x no gone)).gone)) (sumA x no gone) Try.underlying58 sz5 Try.underlying5 (sumA_length _ _ _) (sumA_length _ _ _))) rfl rfl rfl (rfl) rfl rfl ?_
              refine G.any rfl rfl (.pickT rfl rfl rfl) rfl rfl rfl ?_
              refine G.any rfl rfl (.assign rfl) rfl rfl rfl ?_
              refine G.nil ?_
              refine E.thenN ?_
              refine WC.seq ?_
              refine WC.region ?_
              refine W.any (.field0 fa41_0 rfl) rfl rfl rfl ?_
              have f21 := (f17.le (h8_20.trans h8_24))
              refine W.rd (.bpart (edgeV ((oth other (signA k x no gone)).e)) ag34 rfl (by decide) rfl f21 rfl) rfl rfl rfl ?_
              have f22 := (f18.le (h8_20.trans h8_24))
              refine W.rd (.loadAll ag34 (by rfl) rfl f22) rfl rfl rfl ?_
              refine W.any (.eqA eg34 rfl rfl (eqv_edge (d := 9997) _ _)) rfl rfl rfl ?_
              by_cases q9_4 : ((oth other (signA k x no gone)).e) = x
              · refine W.any (.dec (.move rfl) (decide_eq_true q9_4)) rfl rfl rfl ?_
                refine W.rdg (Any.rd (.field0 fa41_1 rfl) _) rfl rfl rfl (rfl) rfl rfl ?_
                refine W.rdg (.loadB (v := .int .i64 ((oth other (signA k x no gone)).no)) na3 rfl f21 rfl) rfl rfl rfl (rfl) rfl rfl ?_
                refine W.rdg (Any.rd (.move rfl) _) rfl rfl rfl (rfl) rfl rfl ?_
                refine W.rdg (Any.rd (.eql rfl rfl) _) rfl rfl rfl (rfl) rfl rfl ?_
                refine W.any (.pickT rfl rfl rfl) rfl rfl rfl ?_
                by_cases q9_10 : ((oth other (signA k x no gone)).no) = no
                · refine W.any (.dec (.move rfl) (decide_eq_true q9_10)) rfl rfl rfl ?_
                  refine W.rdg (Any.rd (.field0 fa41_2 rfl) _) rfl rfl rfl (rfl) rfl rfl ?_
                  refine W.rdg (.loadB (v := .bool ((oth other (signA k x no gone)).gone)) na4 rfl f21 rfl) rfl rfl rfl (rfl) rfl rfl ?_
                  refine W.rdg (Any.rd (.move rfl) _) rfl rfl rfl (rfl) rfl rfl ?_
                  refine W.rdg (Any.rd (.beql Try.underlying4 rfl rfl) _) rfl rfl rfl (rfl) rfl rfl ?_
                  refine W.any (.pickT rfl rfl rfl) rfl rfl rfl ?_
                  refine W.any (.assign rfl) rfl rfl rfl ?_
                  refine W.nil ?_
                  refine E.thenN ?_
                  refine WC.seq ?_
                  refine WC.draw [0, 1, 2, 3, 4, 5, 6, 7, 8, 9, 10, 11, 12, 13, 14, 15, 16, 17, 18, 19, 20, 21, 22, 23, 24, 25, 26, 27, 28, 29, 30, 31, 32, 33, 34, 35, 36, 37, 38, 39, 40, 41, 42, 44, 45, 43, 46, 47, 48, 49, 50] mixed (by kernel_rfl) ?_
                  intro w10 d10
                  have L23 := L20.trans d10
                  refine G.any rfl rfl (.move rfl) rfl rfl rfl ?_
                  refine G.any rfl rfl (.move rfl) rfl rfl rfl ?_
                  refine G.anyg rfl rfl (.field0 fa41_0 rfl) rfl rfl rfl (rfl) rfl rfl ?_
                  have f24 := ((f11.ch h7_3 (fun h => (show g0_1 ≠ g2_5 from by have := b0_1.lt; have := h1_0.size; have := h2_4.size; omega) (Option.some.inj h))).le (d8.trans (h8_2.trans (h8_20.trans (h8_24.trans d10)))))
                  refine G.rdg rfl rfl (.bpart (edgeV ((signA k x no gone).e)) ag34 rfl (by decide) rfl f24 rfl) rfl rfl rfl (rfl) rfl rfl ?_
                  have f25 := (f22.le d10)
                  refine G.rdg rfl rfl (.loadAll ag34 (by rfl) rfl f25) rfl rfl rfl (rfl) rfl rfl ?_
                  refine G.anyg rfl rfl (.dec (.eqA eg34 rfl rfl (eqv_edge (d := 9997) _ _)) (decide_eq_true (sg_e hm))) rfl rfl rfl (rfl) rfl rfl ?_
                  refine G.any rfl rfl (.pickT rfl rfl rfl) rfl rfl rfl ?_
                  refine G.any rfl rfl (.move rfl) rfl rfl rfl ?_
                  refine G.anyg rfl rfl (.field0 fa41_1 rfl) rfl rfl rfl (rfl) rfl rfl ?_
                  refine G.rdg rfl rfl (.loadB (v := .int .i64 ((signA k x no gone).no)) na3 rfl f24 rfl) rfl rfl rfl (rfl) rfl rfl ?_
                  refine G.anyg rfl rfl (.move rfl) rfl rfl rfl (rfl) rfl rfl ?_
                  refine G.anyg rfl rfl (.dec (.eql rfl rfl) (decide_eq_true (sg_no hm))) rfl rfl rfl (rfl) rfl rfl ?_
                  refine G.any rfl rfl (.pickT rfl rfl rfl) rfl rfl rfl ?_
                  refine G.any rfl rfl (.move rfl) rfl rfl rfl ?_
                  refine G.anyg rfl rfl (.field0 fa41_2 rfl) rfl rfl rfl (rfl) rfl rfl ?_
                  refine G.rdg rfl rfl (.loadB (v := .bool ((signA k x no gone).gone)) na4 rfl f24 rfl) rfl rfl rfl (rfl) rfl rfl ?_
                  refine G.anyg rfl rfl (.move rfl) rfl rfl rfl (rfl) rfl rfl ?_
                  refine G.anyg rfl rfl (.dec (.beql Try.underlying4 rfl rfl) (show ((signA k x no gone).gone == gone) = true from by simp [sg_gone hm])) rfl rfl rfl (rfl) rfl rfl ?_
                  refine G.any rfl rfl (.pickT rfl rfl rfl) rfl rfl rfl ?_
                  refine G.any rfl rfl (.move rfl) rfl rfl rfl ?_
                  refine G.anyg rfl rfl (.field0 fa41_3 rfl) rfl rfl rfl (rfl) rfl rfl ?_
                  refine G.rdg rfl rfl (.bpart (sigV ((signA k x no gone).sg)) ag39 rfl (by decide) rfl f24 rfl) rfl rfl rfl (rfl) rfl rfl ?_
                  refine G.anyg rfl rfl (.buildP (sigV noSig) pl39 z39 rfl rfl) rfl rfl rfl (rfl) rfl rfl ?_
                  refine G.anyg rfl rfl (.eqA eg39 rfl rfl (eqv_sigV (d := 9998) _ _)) rfl rfl rfl (rfl) rfl rfl ?_
                  by_cases q10_24 : ((signA k x no gone).sg) = noSig
                  · refine G.anyg rfl rfl (.dec (.move rfl) (decide_eq_true q10_24)) rfl rfl rfl (rfl) rfl rfl ?_
                    refine G.skip rfl rfl rfl rfl (rfl) rfl rfl ?_
                    refine G.skip rfl rfl rfl rfl (rfl) rfl rfl ?_
                    refine G.skip rfl rfl rfl rfl (rfl) rfl rfl ?_
                    refine G.anyg rfl rfl (.pickT rfl rfl rfl) rfl rfl rfl (rfl) rfl rfl ?_
                    refine G.any rfl rfl (.pickT rfl rfl rfl) rfl rfl rfl ?_
                    refine G.any rfl rfl (.move rfl) rfl rfl rfl ?_
                    refine G.anyg rfl rfl (.move rfl) rfl rfl rfl (rfl) rfl rfl ?_
                    refine G.anyg rfl rfl (.not rfl) rfl rfl rfl (rfl) rfl rfl ?_
                    by_cases q10_33 : (((oth other (signA k x no gone)).gone) == gone) = true
                    · refine G.anyg rfl rfl (.dec (.move rfl) (congrArg not (q10_33))) rfl rfl rfl (rfl) rfl rfl ?_
                      refine G.anyg rfl rfl (.move rfl) rfl rfl rfl (rfl) rfl rfl ?_
                      refine G.anyg rfl rfl (.pickF rfl rfl rfl) rfl rfl rfl (rfl) rfl rfl ?_
                      refine G.any rfl rfl (.pickT rfl rfl rfl) rfl rfl rfl ?_
                      refine G.any rfl rfl (.dec (.move rfl) (decide_eq_true (by have q1 : (oth other (signA k x no gone)).e = x := (by assumption); have q2 : (oth other (signA k x no gone)).no = no := (by assumption); have q3 : ((oth other (signA k x no gone)).gone == gone) = true := (by assumption); rw [q1, q2, eq_of_beq q3]))) rfl rfl rfl ?_
                      refine G.anyg rfl rfl (.move rfl) rfl rfl rfl (rfl) rfl rfl ?_
                      refine G.anyg rfl rfl (.not rfl) rfl rfl rfl (rfl) rfl rfl ?_
                      by_cases q10_40 : (sumA ((oth other (signA k x no gone)).e) ((oth other (signA k x no gone)).no) ((oth other (signA k x no gone)).gone)) = (sumA x no gone)
                      · refine G.anyg rfl rfl (.dec (.move rfl) (congrArg not (decide_eq_true q10_40))) rfl rfl rfl (rfl) rfl rfl ?_
                        refine G.anyg rfl rfl (.move rfl) rfl rfl rfl (rfl) rfl rfl ?_
                        have f26 := (f21.le d10)
                        refine G.rdg rfl rfl (.loadAll ag41 (by rfl) rfl f26) rfl rfl rfl (rfl) rfl rfl ?_
                        refine G.anyg rfl rfl (.move rfl) rfl rfl rfl (rfl) rfl rfl ?_
                        refine G.rdg rfl rfl (.loadAll ag41 (by rfl) rfl f24) rfl rfl rfl (rfl) rfl rfl ?_
                        refine G.efg rfl rfl rfl rfl rfl (rfl) rfl rfl ?_
                        refine Ef.call go13 rfl rfl (averify_ok (base k) (oth other (signA k x no gone)) (b_lt _) sg_r w10) ?_
                        rintro _ w10_43 ⟨rfl, h10_43⟩
                        refine ⟨_, rfl, ?_⟩
                        refine ⟨fun _ => h10_43, ?_⟩
                        have L27 := L23.trans h10_43
                        refine G.efg rfl rfl rfl rfl rfl (rfl) rfl rfl ?_
                        refine Ef.call go13 rfl rfl (averify_ok (base k) (signA k x no gone) (b_lt _) sg_r w10_43) ?_
                        rintro _ w10_46 ⟨rfl, h10_46⟩
                        refine ⟨_, rfl, ?_⟩
                        refine ⟨fun _ => h10_46, ?_⟩
                        have L28 := L27.trans h10_46
                        refine G.anyg rfl rfl (.beql Try.underlying4 rfl rfl) rfl rfl rfl (rfl) rfl rfl ?_
                        refine G.anyg rfl rfl (.pickF rfl rfl rfl) rfl rfl rfl (rfl) rfl rfl ?_
                        refine G.any rfl rfl (.pickT rfl rfl rfl) rfl rfl rfl ?_
                        refine G.any rfl rfl (.assign rfl) rfl rfl rfl ?_
                        refine G.nil ?_
                        refine E.thenN ?_
                        refine WC.ret ?_
                        refine E.retG1 rfl rfl ?_
                        have hs9 : sumA (oth other (signA k x no gone)).e (oth other (signA k x no gone)).no (oth other (signA k x no gone)).gone = sumA x no gone := (by assumption); exact ⟨congrArg (fun b => Ending.returned (Value.bool b)) (by rw [ver_same (may_of (by assumption) (by assumption) (by assumption)) (by rw [sg_e hm, sg_no hm]; exact hm) (hs9.trans (sg_sum hm).symm)]; simp), L28⟩
                      · refine G.anyg rfl rfl (.dec (.move rfl) (congrArg not (decide_eq_false q10_40))) rfl rfl rfl (rfl) rfl rfl ?_
                        refine G.skip rfl rfl rfl rfl (rfl) rfl rfl ?_
                        refine G.skip rfl rfl rfl rfl (rfl) rfl rfl ?_
                        refine G.skip rfl rfl rfl rfl (rfl) rfl rfl ?_
                        refine G.skip rfl rfl rfl rfl (rfl) rfl rfl ?_
                        refine G.skip rfl rfl rfl rfl (rfl) rfl rfl ?_
                        refine G.skip rfl rfl rfl rfl (rfl) rfl rfl ?_
                        refine G.skip rfl rfl rfl rfl (rfl) rfl rfl ?_
                        refine G.anyg rfl rfl (.pickT rfl rfl rfl) rfl rfl rfl (rfl) rfl rfl ?_
                        refine G.any rfl rfl (.pickT rfl rfl rfl) rfl rfl rfl ?_
                        refine G.any rfl rfl (.assign rfl) rfl rfl rfl ?_
                        refine G.nil ?_
                        refine E.thenN ?_
                        refine WC.ret ?_
                        refine E.retG1 rfl rfl ?_
                        exact ⟨rfl, L23⟩
                    · refine G.anyg rfl rfl (.dec (.move rfl) (congrArg not ((Bool.eq_false_iff.2 q10_33)))) rfl rfl rfl (rfl) rfl rfl ?_
                      refine G.skip rfl rfl rfl rfl (rfl) rfl rfl ?_
                      refine G.anyg rfl rfl (.pickT rfl rfl rfl) rfl rfl rfl (rfl) rfl rfl ?_
                      refine G.any rfl rfl (.pickT rfl rfl rfl) rfl rfl rfl ?_
                      refine G.any rfl rfl (.move rfl) rfl rfl rfl ?_
                      refine G.anyg rfl rfl (.move rfl) rfl rfl rfl (rfl) rfl rfl ?_
                      refine G.anyg rfl rfl (.not rfl) rfl rfl rfl (rfl) rfl rfl ?_
                      by_cases q10_40 : (sumA ((oth other (signA k x no gone)).e) ((oth other (signA k x no gone)).no) ((oth other (signA k x no gone)).gone)) = (sumA x no gone)
                      · refine G.anyg rfl rfl (.dec (.move rfl) (congrArg not (decide_eq_true q10_40))) rfl rfl rfl (rfl) rfl rfl ?_
                        refine G.anyg rfl rfl (.move rfl) rfl rfl rfl (rfl) rfl rfl ?_
                        have f29 := (f21.le d10)
                        refine G.rdg rfl rfl (.loadAll ag41 (by rfl) rfl f29) rfl rfl rfl (rfl) rfl rfl ?_
                        refine G.anyg rfl rfl (.move rfl) rfl rfl rfl (rfl) rfl rfl ?_
                        refine G.rdg rfl rfl (.loadAll ag41 (by rfl) rfl f24) rfl rfl rfl (rfl) rfl rfl ?_
                        refine G.efg rfl rfl rfl rfl rfl (rfl) rfl rfl ?_
                        refine Ef.call go13 rfl rfl (averify_ok (base k) (oth other (signA k x no gone)) (b_lt _) sg_r w10) ?_
                        rintro _ w10_43_1 ⟨rfl, h10_43_1⟩
                        refine ⟨_, rfl, ?_⟩
                        refine ⟨fun _ => h10_43_1, ?_⟩
                        have L30 := L23.trans h10_43_1
                        refine G.efg rfl rfl rfl rfl rfl (rfl) rfl rfl ?_
                        refine Ef.call go13 rfl rfl (averify_ok (base k) (signA k x no gone) (b_lt _) sg_r w10_43_1) ?_
                        rintro _ w10_46_1 ⟨rfl, h10_46_1⟩
                        refine ⟨_, rfl, ?_⟩
                        refine ⟨fun _ => h10_46_1, ?_⟩
                        have L31 := L30.trans h10_46_1
                        refine G.anyg rfl rfl (.beql Try.underlying4 rfl rfl) rfl rfl rfl (rfl) rfl rfl ?_
                        refine G.anyg rfl rfl (.pickF rfl rfl rfl) rfl rfl rfl (rfl) rfl rfl ?_
                        refine G.any rfl rfl (.pickT rfl rfl rfl) rfl rfl rfl ?_
                        refine G.any rfl rfl (.assign rfl) rfl rfl rfl ?_
                        refine G.nil ?_
                        refine E.thenN ?_
                        refine WC.ret ?_
                        refine E.retG1 rfl rfl ?_
                        have hs9 : sumA (oth other (signA k x no gone)).e (oth other (signA k x no gone)).no (oth other (signA k x no gone)).gone = sumA x no gone := (by assumption); exact ⟨congrArg (fun b => Ending.returned (Value.bool b)) (by rw [ver_same (may_of (by assumption) (by assumption) (by assumption)) (by rw [sg_e hm, sg_no hm]; exact hm) (hs9.trans (sg_sum hm).symm)]; simp), L31⟩
                      · refine G.anyg rfl rfl (.dec (.move rfl) (congrArg not (decide_eq_false q10_40))) rfl rfl rfl (rfl) rfl rfl ?_
                        refine G.skip rfl rfl rfl rfl (rfl) rfl rfl ?_
                        refine G.skip rfl rfl rfl rfl (rfl) rfl rfl ?_
                        refine G.skip rfl rfl rfl rfl (rfl) rfl rfl ?_
                        refine G.skip rfl rfl rfl rfl (rfl) rfl rfl ?_
                        refine G.skip rfl rfl rfl rfl (rfl) rfl rfl ?_
                        refine G.skip rfl rfl rfl rfl (rfl) rfl rfl ?_
                        refine G.skip rfl rfl rfl rfl (rfl) rfl rfl ?_
                        refine G.anyg rfl rfl (.pickT rfl rfl rfl) rfl rfl rfl (rfl) rfl rfl ?_
                        refine G.any rfl rfl (.pickT rfl rfl rfl) rfl rfl rfl ?_
                        refine G.any rfl rfl (.assign rfl) rfl rfl rfl ?_
                        refine G.nil ?_
                        refine E.thenN ?_
                        refine WC.ret ?_
                        refine E.retG1 rfl rfl ?_
                        exact ⟨rfl, L23⟩
                  · refine G.anyg rfl rfl (.dec (.move rfl) (decide_eq_false q10_24)) rfl rfl rfl (rfl) rfl rfl ?_
                    refine G.anyg rfl rfl (.move rfl) rfl rfl rfl (rfl) rfl rfl ?_
                    refine G.rdg rfl rfl (.loadAll ag41 (by rfl) rfl f24) rfl rfl rfl (rfl) rfl rfl ?_
                    refine G.efg rfl rfl rfl rfl rfl (rfl) rfl rfl ?_
                    refine Ef.call go13 rfl rfl (averify_ok (base k) (signA k x no gone) (b_lt _) sg_r w10) ?_
                    rintro _ w10_27 ⟨rfl, h10_27⟩
                    refine ⟨_, rfl, ?_⟩
                    refine ⟨fun _ => h10_27, ?_⟩
                    have L32 := L23.trans h10_27
                    refine G.anyg rfl rfl (.pickF rfl rfl rfl) rfl rfl rfl (rfl) rfl rfl ?_
                    refine G.any rfl rfl (.pickT rfl rfl rfl) rfl rfl rfl ?_
                    refine G.any rfl rfl (.dec (.move rfl) (sg_ver hm (by assumption))) rfl rfl rfl ?_
                    refine G.anyg rfl rfl (.move rfl) rfl rfl rfl (rfl) rfl rfl ?_
                    refine G.anyg rfl rfl (.not rfl) rfl rfl rfl (rfl) rfl rfl ?_
                    by_cases q10_33 : (((oth other (signA k x no gone)).gone) == gone) = true
                    · refine G.anyg rfl rfl (.dec (.move rfl) (congrArg not (q10_33))) rfl rfl rfl (rfl) rfl rfl ?_
                      refine G.anyg rfl rfl (.move rfl) rfl rfl rfl (rfl) rfl rfl ?_
                      refine G.anyg rfl rfl (.pickF rfl rfl rfl) rfl rfl rfl (rfl) rfl rfl ?_
                      refine G.any rfl rfl (.pickT rfl rfl rfl) rfl rfl rfl ?_
                      refine G.any rfl rfl (.dec (.move rfl) (decide_eq_true (by have q1 : (oth other (signA k x no gone)).e = x := (by assumption); have q2 : (oth other (signA k x no gone)).no = no := (by assumption); have q3 : ((oth other (signA k x no gone)).gone == gone) = true := (by assumption); rw [q1, q2, eq_of_beq q3]))) rfl rfl rfl ?_
                      refine G.anyg rfl rfl (.move rfl) rfl rfl rfl (rfl) rfl rfl ?_
                      refine G.anyg rfl rfl (.not rfl) rfl rfl rfl (rfl) rfl rfl ?_
                      by_cases q10_40 : (sumA ((oth other (signA k x no gone)).e) ((oth other (signA k x no gone)).no) ((oth other (signA k x no gone)).gone)) = (sumA x no gone)
                      · refine G.anyg rfl rfl (.dec (.move rfl) (congrArg not (decide_eq_true q10_40))) rfl rfl rfl (rfl) rfl rfl ?_
                        refine G.anyg rfl rfl (.move rfl) rfl rfl rfl (rfl) rfl rfl ?_
                        have f33 := (f21.le (d10.trans h10_27))
                        refine G.rdg rfl rfl (.loadAll ag41 (by rfl) rfl f33) rfl rfl rfl (rfl) rfl rfl ?_
                        refine G.anyg rfl rfl (.move rfl) rfl rfl rfl (rfl) rfl rfl ?_
                        have f34 := (f24.le h10_27)
                        refine G.rdg rfl rfl (.loadAll ag41 (by rfl) rfl f34) rfl rfl rfl (rfl) rfl rfl ?_
                        refine G.efg rfl rfl rfl rfl rfl (rfl) rfl rfl ?_
                        refine Ef.call go13 rfl rfl (averify_ok (base k) (oth other (signA k x no gone)) (b_lt _) sg_r w10_27) ?_
                        rintro _ w10_43_2 ⟨rfl, h10_43_2⟩
                        refine ⟨_, rfl, ?_⟩
                        refine ⟨fun _ => h10_43_2, ?_⟩
                        have L35 := L32.trans h10_43_2
                        refine G.efg rfl rfl rfl rfl rfl (rfl) rfl rfl ?_
                        refine Ef.call go13 rfl rfl (averify_ok (base k) (signA k x no gone) (b_lt _) sg_r w10_43_2) ?_
                        rintro _ w10_46_2 ⟨rfl, h10_46_2⟩
                        refine ⟨_, rfl, ?_⟩
                        refine ⟨fun _ => h10_46_2, ?_⟩
                        have L36 := L35.trans h10_46_2
                        refine G.anyg rfl rfl (.beql Try.underlying4 rfl rfl) rfl rfl rfl (rfl) rfl rfl ?_
                        refine G.anyg rfl rfl (.pickF rfl rfl rfl) rfl rfl rfl (rfl) rfl rfl ?_
                        refine G.any rfl rfl (.pickT rfl rfl rfl) rfl rfl rfl ?_
                        refine G.any rfl rfl (.assign rfl) rfl rfl rfl ?_
                        refine G.nil ?_
                        refine E.thenN ?_
                        refine WC.ret ?_
                        refine E.retG1 rfl rfl ?_
                        have hs9 : sumA (oth other (signA k x no gone)).e (oth other (signA k x no gone)).no (oth other (signA k x no gone)).gone = sumA x no gone := (by assumption); exact ⟨congrArg (fun b => Ending.returned (Value.bool b)) (by rw [ver_same (may_of (by assumption) (by assumption) (by assumption)) (by rw [sg_e hm, sg_no hm]; exact hm) (hs9.trans (sg_sum hm).symm)]; simp), L36⟩
                      · refine G.anyg rfl rfl (.dec (.move rfl) (congrArg not (decide_eq_false q10_40))) rfl rfl rfl (rfl) rfl rfl ?_
                        refine G.skip rfl rfl rfl rfl (rfl) rfl rfl ?_
                        refine G.skip rfl rfl rfl rfl (rfl) rfl rfl ?_
                        refine G.skip rfl rfl rfl rfl (rfl) rfl rfl ?_
                        refine G.skip rfl rfl rfl rfl (rfl) rfl rfl ?_
                        refine G.skip rfl rfl rfl rfl (rfl) rfl rfl ?_
                        refine G.skip rfl rfl rfl rfl (rfl) rfl rfl ?_
                        refine G.skip rfl rfl rfl rfl (rfl) rfl rfl ?_
                        refine G.anyg rfl rfl (.pickT rfl rfl rfl) rfl rfl rfl (rfl) rfl rfl ?_
                        refine G.any rfl rfl (.pickT rfl rfl rfl) rfl rfl rfl ?_
                        refine G.any rfl rfl (.assign rfl) rfl rfl rfl ?_
                        refine G.nil ?_
                        refine E.thenN ?_
                        refine WC.ret ?_
                        refine E.retG1 rfl rfl ?_
                        exact ⟨rfl, L32⟩
                    · refine G.anyg rfl rfl (.dec (.move rfl) (congrArg not ((Bool.eq_false_iff.2 q10_33)))) rfl rfl rfl (rfl) rfl rfl ?_
                      refine G.skip rfl rfl rfl rfl (rfl) rfl rfl ?_
                      refine G.anyg rfl rfl (.pickT rfl rfl rfl) rfl rfl rfl (rfl) rfl rfl ?_
                      refine G.any rfl rfl (.pickT rfl rfl rfl) rfl rfl rfl ?_
                      refine G.any rfl rfl (.move rfl) rfl rfl rfl ?_
                      refine G.anyg rfl rfl (.move rfl) rfl rfl rfl (rfl) rfl rfl ?_
                      refine G.anyg rfl rfl (.not rfl) rfl rfl rfl (rfl) rfl rfl ?_
                      by_cases q10_40 : (sumA ((oth other (signA k x no gone)).e) ((oth other (signA k x no gone)).no) ((oth other (signA k x no gone)).gone)) = (sumA x no gone)
                      · refine G.anyg rfl rfl (.dec (.move rfl) (congrArg not (decide_eq_true q10_40))) rfl rfl rfl (rfl) rfl rfl ?_
                        refine G.anyg rfl rfl (.move rfl) rfl rfl rfl (rfl) rfl rfl ?_
                        have f37 := (f21.le (d10.trans h10_27))
                        refine G.rdg rfl rfl (.loadAll ag41 (by rfl) rfl f37) rfl rfl rfl (rfl) rfl rfl ?_
                        refine G.anyg rfl rfl (.move rfl) rfl rfl rfl (rfl) rfl rfl ?_
                        have f38 := (f24.le h10_27)
                        refine G.rdg rfl rfl (.loadAll ag41 (by rfl) rfl f38) rfl rfl rfl (rfl) rfl rfl ?_
                        refine G.efg rfl rfl rfl rfl rfl (rfl) rfl rfl ?_
                        refine Ef.call go13 rfl rfl (averify_ok (base k) (oth other (signA k x no gone)) (b_lt _) sg_r w10_27) ?_
                        rintro _ w10_43_3 ⟨rfl, h10_43_3⟩
                        refine ⟨_, rfl, ?_⟩
                        refine ⟨fun _ => h10_43_3, ?_⟩
                        have L39 := L32.trans h10_43_3
                        refine G.efg rfl rfl rfl rfl rfl (rfl) rfl rfl ?_
                        refine Ef.call go13 rfl rfl (averify_ok (base k) (signA k x no gone) (b_lt _) sg_r w10_43_3) ?_
                        rintro _ w10_46_3 ⟨rfl, h10_46_3⟩
                        refine ⟨_, rfl, ?_⟩
                        refine ⟨fun _ => h10_46_3, ?_⟩
                        have L40 := L39.trans h10_46_3
                        refine G.anyg rfl rfl (.beql Try.underlying4 rfl rfl) rfl rfl rfl (rfl) rfl rfl ?_
                        refine G.anyg rfl rfl (.pickF rfl rfl rfl) rfl rfl rfl (rfl) rfl rfl ?_
                        refine G.any rfl rfl (.pickT rfl rfl rfl) rfl rfl rfl ?_
                        refine G.any rfl rfl (.assign rfl) rfl rfl rfl ?_
                        refine G.nil ?_
                        refine E.thenN ?_
                        refine WC.ret ?_
                        refine E.retG1 rfl rfl ?_
                        have hs9 : sumA (oth other (signA k x no gone)).e (oth other (signA k x no gone)).no (oth other (signA k x no gone)).gone = sumA x no gone := (by assumption); exact ⟨congrArg (fun b => Ending.returned (Value.bool b)) (by rw [ver_same (may_of (by assumption) (by assumption) (by assumption)) (by rw [sg_e hm, sg_no hm]; exact hm) (hs9.trans (sg_sum hm).symm)]; simp), L40⟩
                      · refine G.anyg rfl rfl (.dec (.move rfl) (congrArg not (decide_eq_false q10_40))) rfl rfl rfl (rfl) rfl rfl ?_
                        refine G.skip rfl rfl rfl rfl (rfl) rfl rfl ?_
                        refine G.skip rfl rfl rfl rfl (rfl) rfl rfl ?_
                        refine G.skip rfl rfl rfl rfl (rfl) rfl rfl ?_
                        refine G.skip rfl rfl rfl rfl (rfl) rfl rfl ?_
                        refine G.skip rfl rfl rfl rfl (rfl) rfl rfl ?_
                        refine G.skip rfl rfl rfl rfl (rfl) rfl rfl ?_
                        refine G.skip rfl rfl rfl rfl (rfl) rfl rfl ?_
                        refine G.anyg rfl rfl (.pickT rfl rfl rfl) rfl rfl rfl (rfl) rfl rfl ?_
                        refine G.any rfl rfl (.pickT rfl rfl rfl) rfl rfl rfl ?_
                        refine G.any rfl rfl (.assign rfl) rfl rfl rfl ?_
                        refine G.nil ?_
                        refine E.thenN ?_
                        refine WC.ret ?_
                        refine E.retG1 rfl rfl ?_
                        exact ⟨rfl, L32⟩
                · refine W.any (.dec (.move rfl) (decide_eq_false q9_10)) rfl rfl rfl ?_
                  refine W.skip rfl rfl rfl (rfl) rfl rfl ?_
                  refine W.skip rfl rfl rfl (rfl) rfl rfl ?_
                  refine W.skip rfl rfl rfl (rfl) rfl rfl ?_
                  refine W.skip rfl rfl rfl (rfl) rfl rfl ?_
                  refine W.any (.pickF rfl rfl rfl) rfl rfl rfl ?_
                  refine W.any (.assign rfl) rfl rfl rfl ?_
                  refine W.nil ?_
                  refine E.thenN ?_
                  refine WC.seq ?_
                  refine WC.draw [0, 1, 2, 3, 4, 5, 6, 7, 8, 9, 10, 11, 12, 13, 14, 15, 16, 17, 18, 19, 20, 21, 22, 23, 24, 25, 26, 27, 28, 29, 30, 31, 32, 33, 34, 35, 36, 37, 38, 39, 40, 41, 42, 44, 45, 43, 46, 47, 48, 49, 50] mixed (by kernel_rfl) ?_
                  intro w10 d10
                  have L41 := L20.trans d10
                  refine G.any rfl rfl (.move rfl) rfl rfl rfl ?_
                  refine G.any rfl rfl (.move rfl) rfl rfl rfl ?_
                  refine G.anyg rfl rfl (.field0 fa41_0 rfl) rfl rfl rfl (rfl) rfl rfl ?_
                  have f42 := ((f11.ch h7_3 (fun h => (show g0_1 ≠ g2_5 from by have := b0_1.lt; have := h1_0.size; have := h2_4.size; omega) (Option.some.inj h))).le (d8.trans (h8_2.trans (h8_20.trans (h8_24.trans d10)))))
                  refine G.rdg rfl rfl (.bpart (edgeV ((signA k x no gone).e)) ag34 rfl (by decide) rfl f42 rfl) rfl rfl rfl (rfl) rfl rfl ?_
                  have f43 := (f22.le d10)
                  refine G.rdg rfl rfl (.loadAll ag34 (by rfl) rfl f43) rfl rfl rfl (rfl) rfl rfl ?_
                  refine G.anyg rfl rfl (.dec (.eqA eg34 rfl rfl (eqv_edge (d := 9997) _ _)) (decide_eq_true (sg_e hm))) rfl rfl rfl (rfl) rfl rfl ?_
                  refine G.any rfl rfl (.pickT rfl rfl rfl) rfl rfl rfl ?_
                  refine G.any rfl rfl (.move rfl) rfl rfl rfl ?_
                  refine G.anyg rfl rfl (.field0 fa41_1 rfl) rfl rfl rfl (rfl) rfl rfl ?_
                  refine G.rdg rfl rfl (.loadB (v := .int .i64 ((signA k x no gone).no)) na3 rfl f42 rfl) rfl rfl rfl (rfl) rfl rfl ?_
                  refine G.anyg rfl rfl (.move rfl) rfl rfl rfl (rfl) rfl rfl ?_
                  refine G.anyg rfl rfl (.dec (.eql rfl rfl) (decide_eq_true (sg_no hm))) rfl rfl rfl (rfl) rfl rfl ?_
                  refine G.any rfl rfl (.pickT rfl rfl rfl) rfl rfl rfl ?_
                  refine G.any rfl rfl (.move rfl) rfl rfl rfl ?_
                  refine G.anyg rfl rfl (.field0 fa41_2 rfl) rfl rfl rfl (rfl) rfl rfl ?_
                  refine G.rdg rfl rfl (.loadB (v := .bool ((signA k x no gone).gone)) na4 rfl f42 rfl) rfl rfl rfl (rfl) rfl rfl ?_
                  refine G.anyg rfl rfl (.move rfl) rfl rfl rfl (rfl) rfl rfl ?_
                  refine G.anyg rfl rfl (.dec (.beql Try.underlying4 rfl rfl) (show ((signA k x no gone).gone == gone) = true from by simp [sg_gone hm])) rfl rfl rfl (rfl) rfl rfl ?_
                  refine G.any rfl rfl (.pickT rfl rfl rfl) rfl rfl rfl ?_
                  refine G.any rfl rfl (.move rfl) rfl rfl rfl ?_
                  refine G.anyg rfl rfl (.field0 fa41_3 rfl) rfl rfl rfl (rfl) rfl rfl ?_
                  refine G.rdg rfl rfl (.bpart (sigV ((signA k x no gone).sg)) ag39 rfl (by decide) rfl f42 rfl) rfl rfl rfl (rfl) rfl rfl ?_
                  refine G.anyg rfl rfl (.buildP (sigV noSig) pl39 z39 rfl rfl) rfl rfl rfl (rfl) rfl rfl ?_
                  refine G.anyg rfl rfl (.eqA eg39 rfl rfl (eqv_sigV (d := 9998) _ _)) rfl rfl rfl (rfl) rfl rfl ?_
                  by_cases q10_24 : ((signA k x no gone).sg) = noSig
                  · refine G.anyg rfl rfl (.dec (.move rfl) (decide_eq_true q10_24)) rfl rfl rfl (rfl) rfl rfl ?_
                    refine G.skip rfl rfl rfl rfl (rfl) rfl rfl ?_
                    refine G.skip rfl rfl rfl rfl (rfl) rfl rfl ?_
                    refine G.skip rfl rfl rfl rfl (rfl) rfl rfl ?_
                    refine G.anyg rfl rfl (.pickT rfl rfl rfl) rfl rfl rfl (rfl) rfl rfl ?_
                    refine G.any rfl rfl (.pickT rfl rfl rfl) rfl rfl rfl ?_
                    refine G.any rfl rfl (.move rfl) rfl rfl rfl ?_
                    refine G.anyg rfl rfl (.move rfl) rfl rfl rfl (rfl) rfl rfl ?_
                    refine G.anyg rfl rfl (.not rfl) rfl rfl rfl (rfl) rfl rfl ?_
                    refine G.anyg rfl rfl (.move rfl) rfl rfl rfl (rfl) rfl rfl ?_
                    refine G.skip rfl rfl rfl rfl (rfl) rfl rfl ?_
                    refine G.anyg rfl rfl (.pickT rfl rfl rfl) rfl rfl rfl (rfl) rfl rfl ?_
                    refine G.any rfl rfl (.pickT rfl rfl rfl) rfl rfl rfl ?_
                    refine G.any rfl rfl (.move rfl) rfl rfl rfl ?_
                    refine G.anyg rfl rfl (.move rfl) rfl rfl rfl (rfl) rfl rfl ?_
                    refine G.anyg rfl rfl (.not rfl) rfl rfl rfl (rfl) rfl rfl ?_
                    by_cases q10_40 : (sumA ((oth other (signA k x no gone)).e) ((oth other (signA k x no gone)).no) ((oth other (signA k x no gone)).gone)) = (sumA x no gone)
                    · refine G.anyg rfl rfl (.dec (.move rfl) (congrArg not (decide_eq_true q10_40))) rfl rfl rfl (rfl) rfl rfl ?_
                      refine G.anyg rfl rfl (.move rfl) rfl rfl rfl (rfl) rfl rfl ?_
                      have f44 := (f21.le d10)
                      refine G.rdg rfl rfl (.loadAll ag41 (by rfl) rfl f44) rfl rfl rfl (rfl) rfl rfl ?_
                      refine G.anyg rfl rfl (.move rfl) rfl rfl rfl (rfl) rfl rfl ?_
                      refine G.rdg rfl rfl (.loadAll ag41 (by rfl) rfl f42) rfl rfl rfl (rfl) rfl rfl ?_
                      refine G.efg rfl rfl rfl rfl rfl (rfl) rfl rfl ?_
                      refine Ef.call go13 rfl rfl (averify_ok (base k) (oth other (signA k x no gone)) (b_lt _) sg_r w10) ?_
                      rintro _ w10_43_4 ⟨rfl, h10_43_4⟩
                      refine ⟨_, rfl, ?_⟩
                      refine ⟨fun _ => h10_43_4, ?_⟩
                      have L45 := L41.trans h10_43_4
                      refine G.efg rfl rfl rfl rfl rfl (rfl) rfl rfl ?_
                      refine Ef.call go13 rfl rfl (averify_ok (base k) (signA k x no gone) (b_lt _) sg_r w10_43_4) ?_
                      rintro _ w10_46_4 ⟨rfl, h10_46_4⟩
                      refine ⟨_, rfl, ?_⟩
                      refine ⟨fun _ => h10_46_4, ?_⟩
                      have L46 := L45.trans h10_46_4
                      refine G.anyg rfl rfl (.beql Try.underlying4 rfl rfl) rfl rfl rfl (rfl) rfl rfl ?_
                      refine G.anyg rfl rfl (.pickF rfl rfl rfl) rfl rfl rfl (rfl) rfl rfl ?_
                      refine G.any rfl rfl (.pickT rfl rfl rfl) rfl rfl rfl ?_
                      refine G.any rfl rfl (.assign rfl) rfl rfl rfl ?_
                      refine G.nil ?_
                      refine E.thenN ?_
                      refine WC.ret ?_
                      refine E.retG1 rfl rfl ?_
                      have hs9 : sumA (oth other (signA k x no gone)).e (oth other (signA k x no gone)).no (oth other (signA k x no gone)).gone = sumA x no gone := (by assumption); exact ⟨congrArg (fun b => Ending.returned (Value.bool b)) (by rw [ver_same (may_of (by assumption) (by assumption) (by assumption)) (by rw [sg_e hm, sg_no hm]; exact hm) (hs9.trans (sg_sum hm).symm)]; simp), L46⟩
                    · refine G.anyg rfl rfl (.dec (.move rfl) (congrArg not (decide_eq_false q10_40))) rfl rfl rfl (rfl) rfl rfl ?_
                      refine G.skip rfl rfl rfl rfl (rfl) rfl rfl ?_
                      refine G.skip rfl rfl rfl rfl (rfl) rfl rfl ?_
                      refine G.skip rfl rfl rfl rfl (rfl) rfl rfl ?_
                      refine G.skip rfl rfl rfl rfl (rfl) rfl rfl ?_
                      refine G.skip rfl rfl rfl rfl (rfl) rfl rfl ?_
                      refine G.skip rfl rfl rfl rfl (rfl) rfl rfl ?_
                      refine G.skip rfl rfl rfl rfl (rfl) rfl rfl ?_
                      refine G.anyg rfl rfl (.pickT rfl rfl rfl) rfl rfl rfl (rfl) rfl rfl ?_
                      refine G.any rfl rfl (.pickT rfl rfl rfl) rfl rfl rfl ?_
                      refine G.any rfl rfl (.assign rfl) rfl rfl rfl ?_
                      refine G.nil ?_
                      refine E.thenN ?_
                      refine WC.ret ?_
                      refine E.retG1 rfl rfl ?_
                      exact ⟨rfl, L41⟩
                  · refine G.anyg rfl rfl (.dec (.move rfl) (decide_eq_false q10_24)) rfl rfl rfl (rfl) rfl rfl ?_
                    refine G.anyg rfl rfl (.move rfl) rfl rfl rfl (rfl) rfl rfl ?_
                    refine G.rdg rfl rfl (.loadAll ag41 (by rfl) rfl f42) rfl rfl rfl (rfl) rfl rfl ?_
                    refine G.efg rfl rfl rfl rfl rfl (rfl) rfl rfl ?_
                    refine Ef.call go13 rfl rfl (averify_ok (base k) (signA k x no gone) (b_lt _) sg_r w10) ?_
                    rintro _ w10_27_1 ⟨rfl, h10_27_1⟩
                    refine ⟨_, rfl, ?_⟩
                    refine ⟨fun _ => h10_27_1, ?_⟩
                    have L47 := L41.trans h10_27_1
                    refine G.anyg rfl rfl (.pickF rfl rfl rfl) rfl rfl rfl (rfl) rfl rfl ?_
                    refine G.any rfl rfl (.pickT rfl rfl rfl) rfl rfl rfl ?_
                    refine G.any rfl rfl (.dec (.move rfl) (sg_ver hm (by assumption))) rfl rfl rfl ?_
                    refine G.anyg rfl rfl (.move rfl) rfl rfl rfl (rfl) rfl rfl ?_
                    refine G.anyg rfl rfl (.not rfl) rfl rfl rfl (rfl) rfl rfl ?_
                    refine G.anyg rfl rfl (.move rfl) rfl rfl rfl (rfl) rfl rfl ?_
                    refine G.skip rfl rfl rfl rfl (rfl) rfl rfl ?_
                    refine G.anyg rfl rfl (.pickT rfl rfl rfl) rfl rfl rfl (rfl) rfl rfl ?_
                    refine G.any rfl rfl (.pickT rfl rfl rfl) rfl rfl rfl ?_
                    refine G.any rfl rfl (.move rfl) rfl rfl rfl ?_
                    refine G.anyg rfl rfl (.move rfl) rfl rfl rfl (rfl) rfl rfl ?_
                    refine G.anyg rfl rfl (.not rfl) rfl rfl rfl (rfl) rfl rfl ?_
                    by_cases q10_40 : (sumA ((oth other (signA k x no gone)).e) ((oth other (signA k x no gone)).no) ((oth other (signA k x no gone)).gone)) = (sumA x no gone)
                    · refine G.anyg rfl rfl (.dec (.move rfl) (congrArg not (decide_eq_true q10_40))) rfl rfl rfl (rfl) rfl rfl ?_
                      refine G.anyg rfl rfl (.move rfl) rfl rfl rfl (rfl) rfl rfl ?_
                      have f48 := (f21.le (d10.trans h10_27_1))
                      refine G.rdg rfl rfl (.loadAll ag41 (by rfl) rfl f48) rfl rfl rfl (rfl) rfl rfl ?_
                      refine G.anyg rfl rfl (.move rfl) rfl rfl rfl (rfl) rfl rfl ?_
                      have f49 := (f42.le h10_27_1)
                      refine G.rdg rfl rfl (.loadAll ag41 (by rfl) rfl f49) rfl rfl rfl (rfl) rfl rfl ?_
                      refine G.efg rfl rfl rfl rfl rfl (rfl) rfl rfl ?_
                      refine Ef.call go13 rfl rfl (averify_ok (base k) (oth other (signA k x no gone)) (b_lt _) sg_r w10_27_1) ?_
                      rintro _ w10_43_5 ⟨rfl, h10_43_5⟩
                      refine ⟨_, rfl, ?_⟩
                      refine ⟨fun _ => h10_43_5, ?_⟩
                      have L50 := L47.trans h10_43_5
                      refine G.efg rfl rfl rfl rfl rfl (rfl) rfl rfl ?_
                      refine Ef.call go13 rfl rfl (averify_ok (base k) (signA k x no gone) (b_lt _) sg_r w10_43_5) ?_
                      rintro _ w10_46_5 ⟨rfl, h10_46_5⟩
                      refine ⟨_, rfl, ?_⟩
                      refine ⟨fun _ => h10_46_5, ?_⟩
                      have L51 := L50.trans h10_46_5
                      refine G.anyg rfl rfl (.beql Try.underlying4 rfl rfl) rfl rfl rfl (rfl) rfl rfl ?_
                      refine G.anyg rfl rfl (.pickF rfl rfl rfl) rfl rfl rfl (rfl) rfl rfl ?_
                      refine G.any rfl rfl (.pickT rfl rfl rfl) rfl rfl rfl ?_
                      refine G.any rfl rfl (.assign rfl) rfl rfl rfl ?_
                      refine G.nil ?_
                      refine E.thenN ?_
                      refine WC.ret ?_
                      refine E.retG1 rfl rfl ?_
                      have hs9 : sumA (oth other (signA k x no gone)).e (oth other (signA k x no gone)).no (oth other (signA k x no gone)).gone = sumA x no gone := (by assumption); exact ⟨congrArg (fun b => Ending.returned (Value.bool b)) (by rw [ver_same (may_of (by assumption) (by assumption) (by assumption)) (by rw [sg_e hm, sg_no hm]; exact hm) (hs9.trans (sg_sum hm).symm)]; simp), L51⟩
                    · refine G.anyg rfl rfl (.dec (.move rfl) (congrArg not (decide_eq_false q10_40))) rfl rfl rfl (rfl) rfl rfl ?_
                      refine G.skip rfl rfl rfl rfl (rfl) rfl rfl ?_
                      refine G.skip rfl rfl rfl rfl (rfl) rfl rfl ?_
                      refine G.skip rfl rfl rfl rfl (rfl) rfl rfl ?_
                      refine G.skip rfl rfl rfl rfl (rfl) rfl rfl ?_
                      refine G.skip rfl rfl rfl rfl (rfl) rfl rfl ?_
                      refine G.skip rfl rfl rfl rfl (rfl) rfl rfl ?_
                      refine G.skip rfl rfl rfl rfl (rfl) rfl rfl ?_
                      refine G.anyg rfl rfl (.pickT rfl rfl rfl) rfl rfl rfl (rfl) rfl rfl ?_
                      refine G.any rfl rfl (.pickT rfl rfl rfl) rfl rfl rfl ?_
                      refine G.any rfl rfl (.assign rfl) rfl rfl rfl ?_
                      refine G.nil ?_
                      refine E.thenN ?_
                      refine WC.ret ?_
                      refine E.retG1 rfl rfl ?_
                      exact ⟨rfl, L47⟩
              · refine W.any (.dec (.move rfl) (decide_eq_false q9_4)) rfl rfl rfl ?_
                refine W.skip rfl rfl rfl (rfl) rfl rfl ?_
                refine W.skip rfl rfl rfl (rfl) rfl rfl ?_
                refine W.skip rfl rfl rfl (rfl) rfl rfl ?_
                refine W.skip rfl rfl rfl (rfl) rfl rfl ?_
                refine W.any (.pickF rfl rfl rfl) rfl rfl rfl ?_
                refine W.any (.move rfl) rfl rfl rfl ?_
                refine W.skip rfl rfl rfl (rfl) rfl rfl ?_
                refine W.skip rfl rfl rfl (rfl) rfl rfl ?_
                refine W.skip rfl rfl rfl (rfl) rfl rfl ?_
                refine W.skip rfl rfl rfl (rfl) rfl rfl ?_
                refine W.any (.pickF rfl rfl rfl) rfl rfl rfl ?_
                refine W.any (.assign rfl) rfl rfl rfl ?_
                refine W.nil ?_
                refine E.thenN ?_
                refine WC.seq ?_
                refine WC.draw [0, 1, 2, 3, 4, 5, 6, 7, 8, 9, 10, 11, 12, 13, 14, 15, 16, 17, 18, 19, 20, 21, 22, 23, 24, 25, 26, 27, 28, 29, 30, 31, 32, 33, 34, 35, 36, 37, 38, 39, 40, 41, 42, 44, 45, 43, 46, 47, 48, 49, 50] mixed (by kernel_rfl) ?_
                intro w10 d10
                have L52 := L20.trans d10
                refine G.any rfl rfl (.move rfl) rfl rfl rfl ?_
                refine G.any rfl rfl (.move rfl) rfl rfl rfl ?_
                refine G.anyg rfl rfl (.field0 fa41_0 rfl) rfl rfl rfl (rfl) rfl rfl ?_
                have f53 := ((f11.ch h7_3 (fun h => (show g0_1 ≠ g2_5 from by have := b0_1.lt; have := h1_0.size; have := h2_4.size; omega) (Option.some.inj h))).le (d8.trans (h8_2.trans (h8_20.trans (h8_24.trans d10)))))
                refine G.rdg rfl rfl (.bpart (edgeV ((signA k x no gone).e)) ag34 rfl (by decide) rfl f53 rfl) rfl rfl rfl (rfl) rfl rfl ?_
                have f54 := (f22.le d10)
                refine G.rdg rfl rfl (.loadAll ag34 (by rfl) rfl f54) rfl rfl rfl (rfl) rfl rfl ?_
                refine G.anyg rfl rfl (.dec (.eqA eg34 rfl rfl (eqv_edge (d := 9997) _ _)) (decide_eq_true (sg_e hm))) rfl rfl rfl (rfl) rfl rfl ?_
                refine G.any rfl rfl (.pickT rfl rfl rfl) rfl rfl rfl ?_
                refine G.any rfl rfl (.move rfl) rfl rfl rfl ?_
                refine G.anyg rfl rfl (.field0 fa41_1 rfl) rfl rfl rfl (rfl) rfl rfl ?_
                refine G.rdg rfl rfl (.loadB (v := .int .i64 ((signA k x no gone).no)) na3 rfl f53 rfl) rfl rfl rfl (rfl) rfl rfl ?_
                refine G.anyg rfl rfl (.move rfl) rfl rfl rfl (rfl) rfl rfl ?_
                refine G.anyg rfl rfl (.dec (.eql rfl rfl) (decide_eq_true (sg_no hm))) rfl rfl rfl (rfl) rfl rfl ?_
                refine G.any rfl rfl (.pickT rfl rfl rfl) rfl rfl rfl ?_
                refine G.any rfl rfl (.move rfl) rfl rfl rfl ?_
                refine G.anyg rfl rfl (.field0 fa41_2 rfl) rfl rfl rfl (rfl) rfl rfl ?_
                refine G.rdg rfl rfl (.loadB (v := .bool ((signA k x no gone).gone)) na4 rfl f53 rfl) rfl rfl rfl (rfl) rfl rfl ?_
                refine G.anyg rfl rfl (.move rfl) rfl rfl rfl (rfl) rfl rfl ?_
                refine G.anyg rfl rfl (.dec (.beql Try.underlying4 rfl rfl) (show ((signA k x no gone).gone == gone) = true from by simp [sg_gone hm])) rfl rfl rfl (rfl) rfl rfl ?_
                refine G.any rfl rfl (.pickT rfl rfl rfl) rfl rfl rfl ?_
                refine G.any rfl rfl (.move rfl) rfl rfl rfl ?_
                refine G.anyg rfl rfl (.field0 fa41_3 rfl) rfl rfl rfl (rfl) rfl rfl ?_
                refine G.rdg rfl rfl (.bpart (sigV ((signA k x no gone).sg)) ag39 rfl (by decide) rfl f53 rfl) rfl rfl rfl (rfl) rfl rfl ?_
                refine G.anyg rfl rfl (.buildP (sigV noSig) pl39 z39 rfl rfl) rfl rfl rfl (rfl) rfl rfl ?_
                refine G.anyg rfl rfl (.eqA eg39 rfl rfl (eqv_sigV (d := 9998) _ _)) rfl rfl rfl (rfl) rfl rfl ?_
                by_cases q10_24 : ((signA k x no gone).sg) = noSig
                · refine G.anyg rfl rfl (.dec (.move rfl) (decide_eq_true q10_24)) rfl rfl rfl (rfl) rfl rfl ?_
                  refine G.skip rfl rfl rfl rfl (rfl) rfl rfl ?_
                  refine G.skip rfl rfl rfl rfl (rfl) rfl rfl ?_
                  refine G.skip rfl rfl rfl rfl (rfl) rfl rfl ?_
                  refine G.anyg rfl rfl (.pickT rfl rfl rfl) rfl rfl rfl (rfl) rfl rfl ?_
                  refine G.any rfl rfl (.pickT rfl rfl rfl) rfl rfl rfl ?_
                  refine G.any rfl rfl (.move rfl) rfl rfl rfl ?_
                  refine G.anyg rfl rfl (.move rfl) rfl rfl rfl (rfl) rfl rfl ?_
                  refine G.anyg rfl rfl (.not rfl) rfl rfl rfl (rfl) rfl rfl ?_
                  refine G.anyg rfl rfl (.move rfl) rfl rfl rfl (rfl) rfl rfl ?_
                  refine G.skip rfl rfl rfl rfl (rfl) rfl rfl ?_
                  refine G.anyg rfl rfl (.pickT rfl rfl rfl) rfl rfl rfl (rfl) rfl rfl ?_
                  refine G.any rfl rfl (.pickT rfl rfl rfl) rfl rfl rfl ?_
                  refine G.any rfl rfl (.move rfl) rfl rfl rfl ?_
                  refine G.anyg rfl rfl (.move rfl) rfl rfl rfl (rfl) rfl rfl ?_
                  refine G.anyg rfl rfl (.not rfl) rfl rfl rfl (rfl) rfl rfl ?_
                  by_cases q10_40 : (sumA ((oth other (signA k x no gone)).e) ((oth other (signA k x no gone)).no) ((oth other (signA k x no gone)).gone)) = (sumA x no gone)
                  · refine G.anyg rfl rfl (.dec (.move rfl) (congrArg not (decide_eq_true q10_40))) rfl rfl rfl (rfl) rfl rfl ?_
                    refine G.anyg rfl rfl (.move rfl) rfl rfl rfl (rfl) rfl rfl ?_
                    have f55 := (f21.le d10)
                    refine G.rdg rfl rfl (.loadAll ag41 (by rfl) rfl f55) rfl rfl rfl (rfl) rfl rfl ?_
                    refine G.anyg rfl rfl (.move rfl) rfl rfl rfl (rfl) rfl rfl ?_
                    refine G.rdg rfl rfl (.loadAll ag41 (by rfl) rfl f53) rfl rfl rfl (rfl) rfl rfl ?_
                    refine G.efg rfl rfl rfl rfl rfl (rfl) rfl rfl ?_
                    refine Ef.call go13 rfl rfl (averify_ok (base k) (oth other (signA k x no gone)) (b_lt _) sg_r w10) ?_
                    rintro _ w10_43_6 ⟨rfl, h10_43_6⟩
                    refine ⟨_, rfl, ?_⟩
                    refine ⟨fun _ => h10_43_6, ?_⟩
                    have L56 := L52.trans h10_43_6
                    refine G.efg rfl rfl rfl rfl rfl (rfl) rfl rfl ?_
                    refine Ef.call go13 rfl rfl (averify_ok (base k) (signA k x no gone) (b_lt _) sg_r w10_43_6) ?_
                    rintro _ w10_46_6 ⟨rfl, h10_46_6⟩
                    refine ⟨_, rfl, ?_⟩
                    refine ⟨fun _ => h10_46_6, ?_⟩
                    have L57 := L56.trans h10_46_6
                    refine G.anyg rfl rfl (.beql Try.underlying4 rfl rfl) rfl rfl rfl (rfl) rfl rfl ?_
                    refine G.anyg rfl rfl (.pickF rfl rfl rfl) rfl rfl rfl (rfl) rfl rfl ?_
                    refine G.any rfl rfl (.pickT rfl rfl rfl) rfl rfl rfl ?_
                    refine G.any rfl rfl (.assign rfl) rfl rfl rfl ?_
                    refine G.nil ?_
                    refine E.thenN ?_
                    refine WC.ret ?_
                    refine E.retG1 rfl rfl ?_
                    have hs9 : sumA (oth other (signA k x no gone)).e (oth other (signA k x no gone)).no (oth other (signA k x no gone)).gone = sumA x no gone := (by assumption); exact ⟨congrArg (fun b => Ending.returned (Value.bool b)) (by rw [ver_same (may_of (by assumption) (by assumption) (by assumption)) (by rw [sg_e hm, sg_no hm]; exact hm) (hs9.trans (sg_sum hm).symm)]; simp), L57⟩
                  · refine G.anyg rfl rfl (.dec (.move rfl) (congrArg not (decide_eq_false q10_40))) rfl rfl rfl (rfl) rfl rfl ?_
                    refine G.skip rfl rfl rfl rfl (rfl) rfl rfl ?_
                    refine G.skip rfl rfl rfl rfl (rfl) rfl rfl ?_
                    refine G.skip rfl rfl rfl rfl (rfl) rfl rfl ?_
                    refine G.skip rfl rfl rfl rfl (rfl) rfl rfl ?_
                    refine G.skip rfl rfl rfl rfl (rfl) rfl rfl ?_
                    refine G.skip rfl rfl rfl rfl (rfl) rfl rfl ?_
                    refine G.skip rfl rfl rfl rfl (rfl) rfl rfl ?_
                    refine G.anyg rfl rfl (.pickT rfl rfl rfl) rfl rfl rfl (rfl) rfl rfl ?_
                    refine G.any rfl rfl (.pickT rfl rfl rfl) rfl rfl rfl ?_
                    refine G.any rfl rfl (.assign rfl) rfl rfl rfl ?_
                    refine G.nil ?_
                    refine E.thenN ?_
                    refine WC.ret ?_
                    refine E.retG1 rfl rfl ?_
                    exact ⟨rfl, L52⟩
                · refine G.anyg rfl rfl (.dec (.move rfl) (decide_eq_false q10_24)) rfl rfl rfl (rfl) rfl rfl ?_
                  refine G.anyg rfl rfl (.move rfl) rfl rfl rfl (rfl) rfl rfl ?_
                  refine G.rdg rfl rfl (.loadAll ag41 (by rfl) rfl f53) rfl rfl rfl (rfl) rfl rfl ?_
                  refine G.efg rfl rfl rfl rfl rfl (rfl) rfl rfl ?_
                  refine Ef.call go13 rfl rfl (averify_ok (base k) (signA k x no gone) (b_lt _) sg_r w10) ?_
                  rintro _ w10_27_2 ⟨rfl, h10_27_2⟩
                  refine ⟨_, rfl, ?_⟩
                  refine ⟨fun _ => h10_27_2, ?_⟩
                  have L58 := L52.trans h10_27_2
                  refine G.anyg rfl rfl (.pickF rfl rfl rfl) rfl rfl rfl (rfl) rfl rfl ?_
                  refine G.any rfl rfl (.pickT rfl rfl rfl) rfl rfl rfl ?_
                  refine G.any rfl rfl (.dec (.move rfl) (sg_ver hm (by assumption))) rfl rfl rfl ?_
                  refine G.anyg rfl rfl (.move rfl) rfl rfl rfl (rfl) rfl rfl ?_
                  refine G.anyg rfl rfl (.not rfl) rfl rfl rfl (rfl) rfl rfl ?_
                  refine G.anyg rfl rfl (.move rfl) rfl rfl rfl (rfl) rfl rfl ?_
                  refine G.skip rfl rfl rfl rfl (rfl) rfl rfl ?_
                  refine G.anyg rfl rfl (.pickT rfl rfl rfl) rfl rfl rfl (rfl) rfl rfl ?_
                  refine G.any rfl rfl (.pickT rfl rfl rfl) rfl rfl rfl ?_
                  refine G.any rfl rfl (.move rfl) rfl rfl rfl ?_
                  refine G.anyg rfl rfl (.move rfl) rfl rfl rfl (rfl) rfl rfl ?_
                  refine G.anyg rfl rfl (.not rfl) rfl rfl rfl (rfl) rfl rfl ?_
                  by_cases q10_40 : (sumA ((oth other (signA k x no gone)).e) ((oth other (signA k x no gone)).no) ((oth other (signA k x no gone)).gone)) = (sumA x no gone)
                  · refine G.anyg rfl rfl (.dec (.move rfl) (congrArg not (decide_eq_true q10_40))) rfl rfl rfl (rfl) rfl rfl ?_
                    refine G.anyg rfl rfl (.move rfl) rfl rfl rfl (rfl) rfl rfl ?_
                    have f59 := (f21.le (d10.trans h10_27_2))
                    refine G.rdg rfl rfl (.loadAll ag41 (by rfl) rfl f59) rfl rfl rfl (rfl) rfl rfl ?_
                    refine G.anyg rfl rfl (.move rfl) rfl rfl rfl (rfl) rfl rfl ?_
                    have f60 := (f53.le h10_27_2)
                    refine G.rdg rfl rfl (.loadAll ag41 (by rfl) rfl f60) rfl rfl rfl (rfl) rfl rfl ?_
                    refine G.efg rfl rfl rfl rfl rfl (rfl) rfl rfl ?_
                    refine Ef.call go13 rfl rfl (averify_ok (base k) (oth other (signA k x no gone)) (b_lt _) sg_r w10_27_2) ?_
                    rintro _ w10_43_7 ⟨rfl, h10_43_7⟩
                    refine ⟨_, rfl, ?_⟩
                    refine ⟨fun _ => h10_43_7, ?_⟩
                    have L61 := L58.trans h10_43_7
                    refine G.efg rfl rfl rfl rfl rfl (rfl) rfl rfl ?_
                    refine Ef.call go13 rfl rfl (averify_ok (base k) (signA k x no gone) (b_lt _) sg_r w10_43_7) ?_
                    rintro _ w10_46_7 ⟨rfl, h10_46_7⟩
                    refine ⟨_, rfl, ?_⟩
                    refine ⟨fun _ => h10_46_7, ?_⟩
                    have L62 := L61.trans h10_46_7
                    refine G.anyg rfl rfl (.beql Try.underlying4 rfl rfl) rfl rfl rfl (rfl) rfl rfl ?_
                    refine G.anyg rfl rfl (.pickF rfl rfl rfl) rfl rfl rfl (rfl) rfl rfl ?_
                    refine G.any rfl rfl (.pickT rfl rfl rfl) rfl rfl rfl ?_
                    refine G.any rfl rfl (.assign rfl) rfl rfl rfl ?_
                    refine G.nil ?_
                    refine E.thenN ?_
                    refine WC.ret ?_
                    refine E.retG1 rfl rfl ?_
                    have hs9 : sumA (oth other (signA k x no gone)).e (oth other (signA k x no gone)).no (oth other (signA k x no gone)).gone = sumA x no gone := (by assumption); exact ⟨congrArg (fun b => Ending.returned (Value.bool b)) (by rw [ver_same (may_of (by assumption) (by assumption) (by assumption)) (by rw [sg_e hm, sg_no hm]; exact hm) (hs9.trans (sg_sum hm).symm)]; simp), L62⟩
                  · refine G.anyg rfl rfl (.dec (.move rfl) (congrArg not (decide_eq_false q10_40))) rfl rfl rfl (rfl) rfl rfl ?_
                    refine G.skip rfl rfl rfl rfl (rfl) rfl rfl ?_
                    refine G.skip rfl rfl rfl rfl (rfl) rfl rfl ?_
                    refine G.skip rfl rfl rfl rfl (rfl) rfl rfl ?_
                    refine G.skip rfl rfl rfl rfl (rfl) rfl rfl ?_
                    refine G.skip rfl rfl rfl rfl (rfl) rfl rfl ?_
                    refine G.skip rfl rfl rfl rfl (rfl) rfl rfl ?_
                    refine G.skip rfl rfl rfl rfl (rfl) rfl rfl ?_
                    refine G.anyg rfl rfl (.pickT rfl rfl rfl) rfl rfl rfl (rfl) rfl rfl ?_
                    refine G.any rfl rfl (.pickT rfl rfl rfl) rfl rfl rfl ?_
                    refine G.any rfl rfl (.assign rfl) rfl rfl rfl ?_
                    refine G.nil ?_
                    refine E.thenN ?_
                    refine WC.ret ?_
                    refine E.retG1 rfl rfl ?_
                    exact ⟨rfl, L58⟩
            · refine G.any rfl rfl (.dec (.move rfl) (decide_eq_false q8_13)) rfl rfl rfl ?_
              refine G.skip rfl rfl rfl rfl (rfl) rfl rfl ?_
              refine G.skip rfl rfl rfl rfl (rfl) rfl rfl ?_
              refine G.skip rfl rfl rfl rfl (rfl) rfl rfl ?_
              refine G.skip rfl rfl rfl rfl (rfl) rfl rfl ?_
              refine G.skip rfl rfl rfl rfl (rfl) rfl rfl ?_
              refine G.skip rfl rfl rfl rfl (rfl) rfl rfl ?_
              refine G.skip rfl rfl rfl rfl (rfl) rfl rfl ?_
              refine G.skip rfl rfl rfl rfl (rfl) rfl rfl ?_
              refine G.skip rfl rfl rfl rfl (rfl) rfl rfl ?_
              refine G.skip rfl rfl rfl rfl (rfl) rfl rfl ?_
              refine G.skip rfl rfl rfl rfl (rfl) rfl rfl ?_
              refine G.skip rfl rfl rfl rfl (rfl) rfl rfl ?_
              refine G.any rfl rfl (.pickF rfl rfl rfl) rfl rfl rfl ?_
              refine G.any rfl rfl (.assign rfl) rfl rfl rfl ?_
              refine G.nil ?_
              refine E.thenN ?_
              refine WC.seq ?_
              refine WC.region ?_
              refine W.any (.field0 fa41_0 rfl) rfl rfl rfl ?_
              refine W.rd (.bpart (edgeV ((oth other (signA k x no gone)).e)) ag34 rfl (by decide) rfl f17 rfl) rfl rfl rfl ?_
              have f63 := (((f8.le (h3_1.trans h6_1)).ch h7_3 (fun h => (show g0_1 ≠ g0_0 from by have := b0_0.lt; omega) (Option.some.inj h))).le (d8.trans h8_2))
              refine W.rd (.loadAll ag34 (by rfl) rfl f63) rfl rfl rfl ?_
              refine W.any (.eqA eg34 rfl rfl (eqv_edge (d := 9997) _ _)) rfl rfl rfl ?_
              by_cases q9_4 : ((oth other (signA k x no gone)).e) = x
              · refine W.any (.dec (.move rfl) (decide_eq_true q9_4)) rfl rfl rfl ?_
                refine W.rdg (Any.rd (.field0 fa41_1 rfl) _) rfl rfl rfl (rfl) rfl rfl ?_
                refine W.rdg (.loadB (v := .int .i64 ((oth other (signA k x no gone)).no)) na3 rfl f17 rfl) rfl rfl rfl (rfl) rfl rfl ?_
                refine W.rdg (Any.rd (.move rfl) _) rfl rfl rfl (rfl) rfl rfl ?_
                refine W.rdg (Any.rd (.eql rfl rfl) _) rfl rfl rfl (rfl) rfl rfl ?_
                refine W.any (.pickT rfl rfl rfl) rfl rfl rfl ?_
                by_cases q9_10 : ((oth other (signA k x no gone)).no) = no
                · refine W.any (.dec (.move rfl) (decide_eq_true q9_10)) rfl rfl rfl ?_
                  refine W.rdg (Any.rd (.field0 fa41_2 rfl) _) rfl rfl rfl (rfl) rfl rfl ?_
                  refine W.rdg (.loadB (v := .bool ((oth other (signA k x no gone)).gone)) na4 rfl f17 rfl) rfl rfl rfl (rfl) rfl rfl ?_
                  refine W.rdg (Any.rd (.move rfl) _) rfl rfl rfl (rfl) rfl rfl ?_
                  refine W.rdg (Any.rd (.beql Try.underlying4 rfl rfl) _) rfl rfl rfl (rfl) rfl rfl ?_
                  refine W.any (.pickT rfl rfl rfl) rfl rfl rfl ?_
                  refine W.any (.assign rfl) rfl rfl rfl ?_
                  refine W.nil ?_
                  refine E.thenN ?_
                  refine WC.seq ?_
                  refine WC.draw [0, 1, 2, 3, 4, 5, 6, 7, 8, 9, 10, 11, 12, 13, 14, 15, 16, 17, 18, 19, 20, 21, 22, 23, 24, 25, 26, 27, 28, 29, 30, 31, 32, 33, 34, 35, 36, 37, 38, 39, 40, 41, 42, 44, 45, 43, 46, 47, 48, 49, 50] mixed (by kernel_rfl) ?_
                  intro w10 d10
                  have L64 := L16.trans d10
                  refine G.any rfl rfl (.move rfl) rfl rfl rfl ?_
                  refine G.any rfl rfl (.move rfl) rfl rfl rfl ?_
                  refine G.anyg rfl rfl (.field0 fa41_0 rfl) rfl rfl rfl (rfl) rfl rfl ?_
                  have f65 := ((f11.ch h7_3 (fun h => (show g0_1 ≠ g2_5 from by have := b0_1.lt; have := h1_0.size; have := h2_4.size; omega) (Option.some.inj h))).le (d8.trans (h8_2.trans d10)))
                  refine G.rdg rfl rfl (.bpart (edgeV ((signA k x no gone).e)) ag34 rfl (by decide) rfl f65 rfl) rfl rfl rfl (rfl) rfl rfl ?_
                  have f66 := (f63.le d10)
                  refine G.rdg rfl rfl (.loadAll ag34 (by rfl) rfl f66) rfl rfl rfl (rfl) rfl rfl ?_
                  refine G.anyg rfl rfl (.dec (.eqA eg34 rfl rfl (eqv_edge (d := 9997) _ _)) (decide_eq_true (sg_e hm))) rfl rfl rfl (rfl) rfl rfl ?_
                  refine G.any rfl rfl (.pickT rfl rfl rfl) rfl rfl rfl ?_
                  refine G.any rfl rfl (.move rfl) rfl rfl rfl ?_
                  refine G.anyg rfl rfl (.field0 fa41_1 rfl) rfl rfl rfl (rfl) rfl rfl ?_
                  refine G.rdg rfl rfl (.loadB (v := .int .i64 ((signA k x no gone).no)) na3 rfl f65 rfl) rfl rfl rfl (rfl) rfl rfl ?_
                  refine G.anyg rfl rfl (.move rfl) rfl rfl rfl (rfl) rfl rfl ?_
                  refine G.anyg rfl rfl (.dec (.eql rfl rfl) (decide_eq_true (sg_no hm))) rfl rfl rfl (rfl) rfl rfl ?_
                  refine G.any rfl rfl (.pickT rfl rfl rfl) rfl rfl rfl ?_
                  refine G.any rfl rfl (.move rfl) rfl rfl rfl ?_
                  refine G.anyg rfl rfl (.field0 fa41_2 rfl) rfl rfl rfl (rfl) rfl rfl ?_
                  refine G.rdg rfl rfl (.loadB (v := .bool ((signA k x no gone).gone)) na4 rfl f65 rfl) rfl rfl rfl (rfl) rfl rfl ?_
                  refine G.anyg rfl rfl (.move rfl) rfl rfl rfl (rfl) rfl rfl ?_
                  refine G.anyg rfl rfl (.dec (.beql Try.underlying4 rfl rfl) (show ((signA k x no gone).gone == gone) = true from by simp [sg_gone hm])) rfl rfl rfl (rfl) rfl rfl ?_
                  refine G.any rfl rfl (.pickT rfl rfl rfl) rfl rfl rfl ?_
                  refine G.any rfl rfl (.move rfl) rfl rfl rfl ?_
                  refine G.anyg rfl rfl (.field0 fa41_3 rfl) rfl rfl rfl (rfl) rfl rfl ?_
                  refine G.rdg rfl rfl (.bpart (sigV ((signA k x no gone).sg)) ag39 rfl (by decide) rfl f65 rfl) rfl rfl rfl (rfl) rfl rfl ?_
                  refine G.anyg rfl rfl (.buildP (sigV noSig) pl39 z39 rfl rfl) rfl rfl rfl (rfl) rfl rfl ?_
                  refine G.anyg rfl rfl (.eqA eg39 rfl rfl (eqv_sigV (d := 9998) _ _)) rfl rfl rfl (rfl) rfl rfl ?_
                  by_cases q10_24 : ((signA k x no gone).sg) = noSig
                  · refine G.anyg rfl rfl (.dec (.move rfl) (decide_eq_true q10_24)) rfl rfl rfl (rfl) rfl rfl ?_
                    refine G.skip rfl rfl rfl rfl (rfl) rfl rfl ?_
                    refine G.skip rfl rfl rfl rfl (rfl) rfl rfl ?_
                    refine G.skip rfl rfl rfl rfl (rfl) rfl rfl ?_
                    refine G.anyg rfl rfl (.pickT rfl rfl rfl) rfl rfl rfl (rfl) rfl rfl ?_
                    refine G.any rfl rfl (.pickT rfl rfl rfl) rfl rfl rfl ?_
                    refine G.any rfl rfl (.move rfl) rfl rfl rfl ?_
                    refine G.anyg rfl rfl (.move rfl) rfl rfl rfl (rfl) rfl rfl ?_
                    refine G.anyg rfl rfl (.not rfl) rfl rfl rfl (rfl) rfl rfl ?_
                    by_cases q10_33 : (((oth other (signA k x no gone)).gone) == gone) = true
                    · refine G.anyg rfl rfl (.dec (.move rfl) (congrArg not (q10_33))) rfl rfl rfl (rfl) rfl rfl ?_
                      refine G.anyg rfl rfl (.move rfl) rfl rfl rfl (rfl) rfl rfl ?_
                      refine G.anyg rfl rfl (.pickF rfl rfl rfl) rfl rfl rfl (rfl) rfl rfl ?_
                      refine G.any rfl rfl (.pickT rfl rfl rfl) rfl rfl rfl ?_
                      refine G.any rfl rfl (.move rfl) rfl rfl rfl ?_
                      refine G.skip rfl rfl rfl rfl (rfl) rfl rfl ?_
                      refine G.skip rfl rfl rfl rfl (rfl) rfl rfl ?_
                      refine G.skip rfl rfl rfl rfl (rfl) rfl rfl ?_
                      refine G.skipu rfl rfl rfl rfl rfl rfl ?_
                      refine G.skipu rfl rfl rfl rfl rfl rfl ?_
                      refine G.skipu rfl rfl rfl rfl rfl rfl ?_
                      refine G.skipu rfl rfl rfl rfl rfl rfl ?_
                      refine G.skipu rfl rfl rfl rfl rfl rfl ?_
                      refine G.skipu rfl rfl rfl rfl rfl rfl ?_
                      refine G.skipu rfl rfl rfl rfl rfl rfl ?_
                      refine G.skip rfl rfl rfl rfl (rfl) rfl rfl ?_
                      refine G.any rfl rfl (.pickF rfl rfl rfl) rfl rfl rfl ?_
                      refine G.any rfl rfl (.assign rfl) rfl rfl rfl ?_
                      refine G.nil ?_
                      refine E.thenN ?_
                      refine WC.ret ?_
                      refine E.retG1 rfl rfl ?_
                      exfalso; have q1 : (oth other (signA k x no gone)).e = x := (by assumption); have q2 : (oth other (signA k x no gone)).no = no := (by assumption); have q3 : mayA (oth other (signA k x no gone)).e (oth other (signA k x no gone)).no = true := (by rw [q1, q2]; exact hm); obtain ⟨z1, z2, z3⟩ := mayA_T q3; first | omega | (exact absurd z1 (by assumption))
                    · refine G.anyg rfl rfl (.dec (.move rfl) (congrArg not ((Bool.eq_false_iff.2 q10_33)))) rfl rfl rfl (rfl) rfl rfl ?_
                      refine G.skip rfl rfl rfl rfl (rfl) rfl rfl ?_
                      refine G.anyg rfl rfl (.pickT rfl rfl rfl) rfl rfl rfl (rfl) rfl rfl ?_
                      refine G.any rfl rfl (.pickT rfl rfl rfl) rfl rfl rfl ?_
                      refine G.any rfl rfl (.move rfl) rfl rfl rfl ?_
                      refine G.anyg rfl rfl (.move rfl) rfl rfl rfl (rfl) rfl rfl ?_
                      refine G.anyg rfl rfl (.not rfl) rfl rfl rfl (rfl) rfl rfl ?_
                      refine G.anyg rfl rfl (.move rfl) rfl rfl rfl (rfl) rfl rfl ?_
                      refine G.skip rfl rfl rfl rfl (rfl) rfl rfl ?_
                      refine G.skip rfl rfl rfl rfl (rfl) rfl rfl ?_
                      refine G.skip rfl rfl rfl rfl (rfl) rfl rfl ?_
                      refine G.skip rfl rfl rfl rfl (rfl) rfl rfl ?_
                      refine G.skip rfl rfl rfl rfl (rfl) rfl rfl ?_
                      refine G.skip rfl rfl rfl rfl (rfl) rfl rfl ?_
                      refine G.skip rfl rfl rfl rfl (rfl) rfl rfl ?_
                      refine G.anyg rfl rfl (.pickT rfl rfl rfl) rfl rfl rfl (rfl) rfl rfl ?_
                      refine G.any rfl rfl (.pickT rfl rfl rfl) rfl rfl rfl ?_
                      refine G.any rfl rfl (.assign rfl) rfl rfl rfl ?_
                      refine G.nil ?_
                      refine E.thenN ?_
                      refine WC.ret ?_
                      refine E.retG1 rfl rfl ?_
                      exact ⟨rfl, L64⟩
                  · refine G.anyg rfl rfl (.dec (.move rfl) (decide_eq_false q10_24)) rfl rfl rfl (rfl) rfl rfl ?_
                    refine G.anyg rfl rfl (.move rfl) rfl rfl rfl (rfl) rfl rfl ?_
                    refine G.rdg rfl rfl (.loadAll ag41 (by rfl) rfl f65) rfl rfl rfl (rfl) rfl rfl ?_
                    refine G.efg rfl rfl rfl rfl rfl (rfl) rfl rfl ?_
                    refine Ef.call go13 rfl rfl (averify_ok (base k) (signA k x no gone) (b_lt _) sg_r w10) ?_
                    rintro _ w10_27_3 ⟨rfl, h10_27_3⟩
                    refine ⟨_, rfl, ?_⟩
                    refine ⟨fun _ => h10_27_3, ?_⟩
                    have L67 := L64.trans h10_27_3
                    refine G.anyg rfl rfl (.pickF rfl rfl rfl) rfl rfl rfl (rfl) rfl rfl ?_
                    refine G.any rfl rfl (.pickT rfl rfl rfl) rfl rfl rfl ?_
                    refine G.any rfl rfl (.dec (.move rfl) (sg_ver hm (by assumption))) rfl rfl rfl ?_
                    refine G.anyg rfl rfl (.move rfl) rfl rfl rfl (rfl) rfl rfl ?_
                    refine G.anyg rfl rfl (.not rfl) rfl rfl rfl (rfl) rfl rfl ?_
                    by_cases q10_33 : (((oth other (signA k x no gone)).gone) == gone) = true
                    · refine G.anyg rfl rfl (.dec (.move rfl) (congrArg not (q10_33))) rfl rfl rfl (rfl) rfl rfl ?_
                      refine G.anyg rfl rfl (.move rfl) rfl rfl rfl (rfl) rfl rfl ?_
                      refine G.anyg rfl rfl (.pickF rfl rfl rfl) rfl rfl rfl (rfl) rfl rfl ?_
                      refine G.any rfl rfl (.pickT rfl rfl rfl) rfl rfl rfl ?_
                      refine G.any rfl rfl (.move rfl) rfl rfl rfl ?_
                      refine G.skip rfl rfl rfl rfl (rfl) rfl rfl ?_
                      refine G.skip rfl rfl rfl rfl (rfl) rfl rfl ?_
                      refine G.skip rfl rfl rfl rfl (rfl) rfl rfl ?_
                      refine G.skipu rfl rfl rfl rfl rfl rfl ?_
                      refine G.skipu rfl rfl rfl rfl rfl rfl ?_
                      refine G.skipu rfl rfl rfl rfl rfl rfl ?_
                      refine G.skipu rfl rfl rfl rfl rfl rfl ?_
                      refine G.skipu rfl rfl rfl rfl rfl rfl ?_
                      refine G.skipu rfl rfl rfl rfl rfl rfl ?_
                      refine G.skipu rfl rfl rfl rfl rfl rfl ?_
                      refine G.skip rfl rfl rfl rfl (rfl) rfl rfl ?_
                      refine G.any rfl rfl (.pickF rfl rfl rfl) rfl rfl rfl ?_
                      refine G.any rfl rfl (.assign rfl) rfl rfl rfl ?_
                      refine G.nil ?_
                      refine E.thenN ?_
                      refine WC.ret ?_
                      refine E.retG1 rfl rfl ?_
                      exfalso; have q1 : (oth other (signA k x no gone)).e = x := (by assumption); have q2 : (oth other (signA k x no gone)).no = no := (by assumption); have q3 : mayA (oth other (signA k x no gone)).e (oth other (signA k x no gone)).no = true := (by rw [q1, q2]; exact hm); obtain ⟨z1, z2, z3⟩ := mayA_T q3; first | omega | (exact absurd z1 (by assumption))
                    · refine G.anyg rfl rfl (.dec (.move rfl) (congrArg not ((Bool.eq_false_iff.2 q10_33)))) rfl rfl rfl (rfl) rfl rfl ?_
                      refine G.skip rfl rfl rfl rfl (rfl) rfl rfl ?_
                      refine G.anyg rfl rfl (.pickT rfl rfl rfl) rfl rfl rfl (rfl) rfl rfl ?_
                      refine G.any rfl rfl (.pickT rfl rfl rfl) rfl rfl rfl ?_
                      refine G.any rfl rfl (.move rfl) rfl rfl rfl ?_
                      refine G.anyg rfl rfl (.move rfl) rfl rfl rfl (rfl) rfl rfl ?_
                      refine G.anyg rfl rfl (.not rfl) rfl rfl rfl (rfl) rfl rfl ?_
                      refine G.anyg rfl rfl (.move rfl) rfl rfl rfl (rfl) rfl rfl ?_
                      refine G.skip rfl rfl rfl rfl (rfl) rfl rfl ?_
                      refine G.skip rfl rfl rfl rfl (rfl) rfl rfl ?_
                      refine G.skip rfl rfl rfl rfl (rfl) rfl rfl ?_
                      refine G.skip rfl rfl rfl rfl (rfl) rfl rfl ?_
                      refine G.skip rfl rfl rfl rfl (rfl) rfl rfl ?_
                      refine G.skip rfl rfl rfl rfl (rfl) rfl rfl ?_
                      refine G.skip rfl rfl rfl rfl (rfl) rfl rfl ?_
                      refine G.anyg rfl rfl (.pickT rfl rfl rfl) rfl rfl rfl (rfl) rfl rfl ?_
                      refine G.any rfl rfl (.pickT rfl rfl rfl) rfl rfl rfl ?_
                      refine G.any rfl rfl (.assign rfl) rfl rfl rfl ?_
                      refine G.nil ?_
                      refine E.thenN ?_
                      refine WC.ret ?_
                      refine E.retG1 rfl rfl ?_
                      exact ⟨rfl, L67⟩
                · refine W.any (.dec (.move rfl) (decide_eq_false q9_10)) rfl rfl rfl ?_
                  refine W.skip rfl rfl rfl (rfl) rfl rfl ?_
                  refine W.skip rfl rfl rfl (rfl) rfl rfl ?_
                  refine W.skip rfl rfl rfl (rfl) rfl rfl ?_
                  refine W.skip rfl rfl rfl (rfl) rfl rfl ?_
                  refine W.any (.pickF rfl rfl rfl) rfl rfl rfl ?_
                  refine W.any (.assign rfl) rfl rfl rfl ?_
                  refine W.nil ?_
                  refine E.thenN ?_
                  refine WC.seq ?_
                  refine WC.draw [0, 1, 2, 3, 4, 5, 6, 7, 8, 9, 10, 11, 12, 13, 14, 15, 16, 17, 18, 19, 20, 21, 22, 23, 24, 25, 26, 27, 28, 29, 30, 31, 32, 33, 34, 35, 36, 37, 38, 39, 40, 41, 42, 44, 45, 43, 46, 47, 48, 49, 50] mixed (by kernel_rfl) ?_
                  intro w10 d10
                  have L68 := L16.trans d10
                  refine G.any rfl rfl (.move rfl) rfl rfl rfl ?_
                  refine G.any rfl rfl (.move rfl) rfl rfl rfl ?_
                  refine G.anyg rfl rfl (.field0 fa41_0 rfl) rfl rfl rfl (rfl) rfl rfl ?_
                  have f69 := ((f11.ch h7_3 (fun h => (show g0_1 ≠ g2_5 from by have := b0_1.lt; have := h1_0.size; have := h2_4.size; omega) (Option.some.inj h))).le (d8.trans (h8_2.trans d10)))
                  refine G.rdg rfl rfl (.bpart (edgeV ((signA k x no gone).e)) ag34 rfl (by decide) rfl f69 rfl) rfl rfl rfl (rfl) rfl rfl ?_
                  have f70 := (f63.le d10)
                  refine G.rdg rfl rfl (.loadAll ag34 (by rfl) rfl f70) rfl rfl rfl (rfl) rfl rfl ?_
                  refine G.anyg rfl rfl (.dec (.eqA eg34 rfl rfl (eqv_edge (d := 9997) _ _)) (decide_eq_true (sg_e hm))) rfl rfl rfl (rfl) rfl rfl ?_
                  refine G.any rfl rfl (.pickT rfl rfl rfl) rfl rfl rfl ?_
                  refine G.any rfl rfl (.move rfl) rfl rfl rfl ?_
                  refine G.anyg rfl rfl (.field0 fa41_1 rfl) rfl rfl rfl (rfl) rfl rfl ?_
                  refine G.rdg rfl rfl (.loadB (v := .int .i64 ((signA k x no gone).no)) na3 rfl f69 rfl) rfl rfl rfl (rfl) rfl rfl ?_
                  refine G.anyg rfl rfl (.move rfl) rfl rfl rfl (rfl) rfl rfl ?_
                  refine G.anyg rfl rfl (.dec (.eql rfl rfl) (decide_eq_true (sg_no hm))) rfl rfl rfl (rfl) rfl rfl ?_
                  refine G.any rfl rfl (.pickT rfl rfl rfl) rfl rfl rfl ?_
                  refine G.any rfl rfl (.move rfl) rfl rfl rfl ?_
                  refine G.anyg rfl rfl (.field0 fa41_2 rfl) rfl rfl rfl (rfl) rfl rfl ?_
                  refine G.rdg rfl rfl (.loadB (v := .bool ((signA k x no gone).gone)) na4 rfl f69 rfl) rfl rfl rfl (rfl) rfl rfl ?_
                  refine G.anyg rfl rfl (.move rfl) rfl rfl rfl (rfl) rfl rfl ?_
                  refine G.anyg rfl rfl (.dec (.beql Try.underlying4 rfl rfl) (show ((signA k x no gone).gone == gone) = true from by simp [sg_gone hm])) rfl rfl rfl (rfl) rfl rfl ?_
                  refine G.any rfl rfl (.pickT rfl rfl rfl) rfl rfl rfl ?_
                  refine G.any rfl rfl (.move rfl) rfl rfl rfl ?_
                  refine G.anyg rfl rfl (.field0 fa41_3 rfl) rfl rfl rfl (rfl) rfl rfl ?_
                  refine G.rdg rfl rfl (.bpart (sigV ((signA k x no gone).sg)) ag39 rfl (by decide) rfl f69 rfl) rfl rfl rfl (rfl) rfl rfl ?_
                  refine G.anyg rfl rfl (.buildP (sigV noSig) pl39 z39 rfl rfl) rfl rfl rfl (rfl) rfl rfl ?_
                  refine G.anyg rfl rfl (.eqA eg39 rfl rfl (eqv_sigV (d := 9998) _ _)) rfl rfl rfl (rfl) rfl rfl ?_
                  by_cases q10_24 : ((signA k x no gone).sg) = noSig
                  · refine G.anyg rfl rfl (.dec (.move rfl) (decide_eq_true q10_24)) rfl rfl rfl (rfl) rfl rfl ?_
                    refine G.skip rfl rfl rfl rfl (rfl) rfl rfl ?_
                    refine G.skip rfl rfl rfl rfl (rfl) rfl rfl ?_
                    refine G.skip rfl rfl rfl rfl (rfl) rfl rfl ?_
                    refine G.anyg rfl rfl (.pickT rfl rfl rfl) rfl rfl rfl (rfl) rfl rfl ?_
                    refine G.any rfl rfl (.pickT rfl rfl rfl) rfl rfl rfl ?_
                    refine G.any rfl rfl (.move rfl) rfl rfl rfl ?_
                    refine G.anyg rfl rfl (.move rfl) rfl rfl rfl (rfl) rfl rfl ?_
                    refine G.anyg rfl rfl (.not rfl) rfl rfl rfl (rfl) rfl rfl ?_
                    refine G.anyg rfl rfl (.move rfl) rfl rfl rfl (rfl) rfl rfl ?_
                    refine G.skip rfl rfl rfl rfl (rfl) rfl rfl ?_
                    refine G.anyg rfl rfl (.pickT rfl rfl rfl) rfl rfl rfl (rfl) rfl rfl ?_
                    refine G.any rfl rfl (.pickT rfl rfl rfl) rfl rfl rfl ?_
                    refine G.any rfl rfl (.move rfl) rfl rfl rfl ?_
                    refine G.anyg rfl rfl (.move rfl) rfl rfl rfl (rfl) rfl rfl ?_
                    refine G.anyg rfl rfl (.not rfl) rfl rfl rfl (rfl) rfl rfl ?_
                    refine G.anyg rfl rfl (.move rfl) rfl rfl rfl (rfl) rfl rfl ?_
                    refine G.skip rfl rfl rfl rfl (rfl) rfl rfl ?_
                    refine G.skip rfl rfl rfl rfl (rfl) rfl rfl ?_
                    refine G.skip rfl rfl rfl rfl (rfl) rfl rfl ?_
                    refine G.skip rfl rfl rfl rfl (rfl) rfl rfl ?_
                    refine G.skip rfl rfl rfl rfl (rfl) rfl rfl ?_
                    refine G.skip rfl rfl rfl rfl (rfl) rfl rfl ?_
                    refine G.skip rfl rfl rfl rfl (rfl) rfl rfl ?_
                    refine G.anyg rfl rfl (.pickT rfl rfl rfl) rfl rfl rfl (rfl) rfl rfl ?_
                    refine G.any rfl rfl (.pickT rfl rfl rfl) rfl rfl rfl ?_
                    refine G.any rfl rfl (.assign rfl) rfl rfl rfl ?_
                    refine G.nil ?_
                    refine E.thenN ?_
                    refine WC.ret ?_
                    refine E.retG1 rfl rfl ?_
                    exact ⟨rfl, L68⟩
                  · refine G.anyg rfl rfl (.dec (.move rfl) (decide_eq_false q10_24)) rfl rfl rfl (rfl) rfl rfl ?_
                    refine G.anyg rfl rfl (.move rfl) rfl rfl rfl (rfl) rfl rfl ?_
                    refine G.rdg rfl rfl (.loadAll ag41 (by rfl) rfl f69) rfl rfl rfl (rfl) rfl rfl ?_
                    refine G.efg rfl rfl rfl rfl rfl (rfl) rfl rfl ?_
                    refine Ef.call go13 rfl rfl (averify_ok (base k) (signA k x no gone) (b_lt _) sg_r w10) ?_
                    rintro _ w10_27_4 ⟨rfl, h10_27_4⟩
                    refine ⟨_, rfl, ?_⟩
                    refine ⟨fun _ => h10_27_4, ?_⟩
                    have L71 := L68.trans h10_27_4
                    refine G.anyg rfl rfl (.pickF rfl rfl rfl) rfl rfl rfl (rfl) rfl rfl ?_
                    refine G.any rfl rfl (.pickT rfl rfl rfl) rfl rfl rfl ?_
                    refine G.any rfl rfl (.dec (.move rfl) (sg_ver hm (by assumption))) rfl rfl rfl ?_
                    refine G.anyg rfl rfl (.move rfl) rfl rfl rfl (rfl) rfl rfl ?_
                    refine G.anyg rfl rfl (.not rfl) rfl rfl rfl (rfl) rfl rfl ?_
                    refine G.anyg rfl rfl (.move rfl) rfl rfl rfl (rfl) rfl rfl ?_
                    refine G.skip rfl rfl rfl rfl (rfl) rfl rfl ?_
                    refine G.anyg rfl rfl (.pickT rfl rfl rfl) rfl rfl rfl (rfl) rfl rfl ?_
                    refine G.any rfl rfl (.pickT rfl rfl rfl) rfl rfl rfl ?_
                    refine G.any rfl rfl (.move rfl) rfl rfl rfl ?_
                    refine G.anyg rfl rfl (.move rfl) rfl rfl rfl (rfl) rfl rfl ?_
                    refine G.anyg rfl rfl (.not rfl) rfl rfl rfl (rfl) rfl rfl ?_
                    refine G.anyg rfl rfl (.move rfl) rfl rfl rfl (rfl) rfl rfl ?_
                    refine G.skip rfl rfl rfl rfl (rfl) rfl rfl ?_
                    refine G.skip rfl rfl rfl rfl (rfl) rfl rfl ?_
                    refine G.skip rfl rfl rfl rfl (rfl) rfl rfl ?_
                    refine G.skip rfl rfl rfl rfl (rfl) rfl rfl ?_
                    refine G.skip rfl rfl rfl rfl (rfl) rfl rfl ?_
                    refine G.skip rfl rfl rfl rfl (rfl) rfl rfl ?_
                    refine G.skip rfl rfl rfl rfl (rfl) rfl rfl ?_
                    refine G.anyg rfl rfl (.pickT rfl rfl rfl) rfl rfl rfl (rfl) rfl rfl ?_
                    refine G.any rfl rfl (.pickT rfl rfl rfl) rfl rfl rfl ?_
                    refine G.any rfl rfl (.assign rfl) rfl rfl rfl ?_
                    refine G.nil ?_
                    refine E.thenN ?_
                    refine WC.ret ?_
                    refine E.retG1 rfl rfl ?_
                    exact ⟨rfl, L71⟩
              · refine W.any (.dec (.move rfl) (decide_eq_false q9_4)) rfl rfl rfl ?_
                refine W.skip rfl rfl rfl (rfl) rfl rfl ?_
                refine W.skip rfl rfl rfl (rfl) rfl rfl ?_
                refine W.skip rfl rfl rfl (rfl) rfl rfl ?_
                refine W.skip rfl rfl rfl (rfl) rfl rfl ?_
                refine W.any (.pickF rfl rfl rfl) rfl rfl rfl ?_
                refine W.any (.move rfl) rfl rfl rfl ?_
                refine W.skip rfl rfl rfl (rfl) rfl rfl ?_
                refine W.skip rfl rfl rfl (rfl) rfl rfl ?_
                refine W.skip rfl rfl rfl (rfl) rfl rfl ?_
                refine W.skip rfl rfl rfl (rfl) rfl rfl ?_
                refine W.any (.pickF rfl rfl rfl) rfl rfl rfl ?_
                refine W.any (.assign rfl) rfl rfl rfl ?_
                refine W.nil ?_
                refine E.thenN ?_
                refine WC.seq ?_
                refine WC.draw [0, 1, 2, 3, 4, 5, 6, 7, 8, 9, 10, 11, 12, 13, 14, 15, 16, 17, 18, 19, 20, 21, 22, 23, 24, 25, 26, 27, 28, 29, 30, 31, 32, 33, 34, 35, 36, 37, 38, 39, 40, 41, 42, 44, 45, 43, 46, 47, 48, 49, 50] mixed (by kernel_rfl) ?_
                intro w10 d10
                have L72 := L16.trans d10
                refine G.any rfl rfl (.move rfl) rfl rfl rfl ?_
                refine G.any rfl rfl (.move rfl) rfl rfl rfl ?_
                refine G.anyg rfl rfl (.field0 fa41_0 rfl) rfl rfl rfl (rfl) rfl rfl ?_
                have f73 := ((f11.ch h7_3 (fun h => (show g0_1 ≠ g2_5 from by have := b0_1.lt; have := h1_0.size; have := h2_4.size; omega) (Option.some.inj h))).le (d8.trans (h8_2.trans d10)))
                refine G.rdg rfl rfl (.bpart (edgeV ((signA k x no gone).e)) ag34 rfl (by decide) rfl f73 rfl) rfl rfl rfl (rfl) rfl rfl ?_
                have f74 := (f63.le d10)
                refine G.rdg rfl rfl (.loadAll ag34 (by rfl) rfl f74) rfl rfl rfl (rfl) rfl rfl ?_
                refine G.anyg rfl rfl (.dec (.eqA eg34 rfl rfl (eqv_edge (d := 9997) _ _)) (decide_eq_true (sg_e hm))) rfl rfl rfl (rfl) rfl rfl ?_
                refine G.any rfl rfl (.pickT rfl rfl rfl) rfl rfl rfl ?_
                refine G.any rfl rfl (.move rfl) rfl rfl rfl ?_
                refine G.anyg rfl rfl (.field0 fa41_1 rfl) rfl rfl rfl (rfl) rfl rfl ?_
                refine G.rdg rfl rfl (.loadB (v := .int .i64 ((signA k x no gone).no)) na3 rfl f73 rfl) rfl rfl rfl (rfl) rfl rfl ?_
                refine G.anyg rfl rfl (.move rfl) rfl rfl rfl (rfl) rfl rfl ?_
                refine G.anyg rfl rfl (.dec (.eql rfl rfl) (decide_eq_true (sg_no hm))) rfl rfl rfl (rfl) rfl rfl ?_
                refine G.any rfl rfl (.pickT rfl rfl rfl) rfl rfl rfl ?_
                refine G.any rfl rfl (.move rfl) rfl rfl rfl ?_
                refine G.anyg rfl rfl (.field0 fa41_2 rfl) rfl rfl rfl (rfl) rfl rfl ?_
                refine G.rdg rfl rfl (.loadB (v := .bool ((signA k x no gone).gone)) na4 rfl f73 rfl) rfl rfl rfl (rfl) rfl rfl ?_
                refine G.anyg rfl rfl (.move rfl) rfl rfl rfl (rfl) rfl rfl ?_
                refine G.anyg rfl rfl (.dec (.beql Try.underlying4 rfl rfl) (show ((signA k x no gone).gone == gone) = true from by simp [sg_gone hm])) rfl rfl rfl (rfl) rfl rfl ?_
                refine G.any rfl rfl (.pickT rfl rfl rfl) rfl rfl rfl ?_
                refine G.any rfl rfl (.move rfl) rfl rfl rfl ?_
                refine G.anyg rfl rfl (.field0 fa41_3 rfl) rfl rfl rfl (rfl) rfl rfl ?_
                refine G.rdg rfl rfl (.bpart (sigV ((signA k x no gone).sg)) ag39 rfl (by decide) rfl f73 rfl) rfl rfl rfl (rfl) rfl rfl ?_
                refine G.anyg rfl rfl (.buildP (sigV noSig) pl39 z39 rfl rfl) rfl rfl rfl (rfl) rfl rfl ?_
                refine G.anyg rfl rfl (.eqA eg39 rfl rfl (eqv_sigV (d := 9998) _ _)) rfl rfl rfl (rfl) rfl rfl ?_
                by_cases q10_24 : ((signA k x no gone).sg) = noSig
                · refine G.anyg rfl rfl (.dec (.move rfl) (decide_eq_true q10_24)) rfl rfl rfl (rfl) rfl rfl ?_
                  refine G.skip rfl rfl rfl rfl (rfl) rfl rfl ?_
                  refine G.skip rfl rfl rfl rfl (rfl) rfl rfl ?_
                  refine G.skip rfl rfl rfl rfl (rfl) rfl rfl ?_
                  refine G.anyg rfl rfl (.pickT rfl rfl rfl) rfl rfl rfl (rfl) rfl rfl ?_
                  refine G.any rfl rfl (.pickT rfl rfl rfl) rfl rfl rfl ?_
                  refine G.any rfl rfl (.move rfl) rfl rfl rfl ?_
                  refine G.anyg rfl rfl (.move rfl) rfl rfl rfl (rfl) rfl rfl ?_
                  refine G.anyg rfl rfl (.not rfl) rfl rfl rfl (rfl) rfl rfl ?_
                  refine G.anyg rfl rfl (.move rfl) rfl rfl rfl (rfl) rfl rfl ?_
                  refine G.skip rfl rfl rfl rfl (rfl) rfl rfl ?_
                  refine G.anyg rfl rfl (.pickT rfl rfl rfl) rfl rfl rfl (rfl) rfl rfl ?_
                  refine G.any rfl rfl (.pickT rfl rfl rfl) rfl rfl rfl ?_
                  refine G.any rfl rfl (.move rfl) rfl rfl rfl ?_
                  refine G.anyg rfl rfl (.move rfl) rfl rfl rfl (rfl) rfl rfl ?_
                  refine G.anyg rfl rfl (.not rfl) rfl rfl rfl (rfl) rfl rfl ?_
                  refine G.anyg rfl rfl (.move rfl) rfl rfl rfl (rfl) rfl rfl ?_
                  refine G.skip rfl rfl rfl rfl (rfl) rfl rfl ?_
                  refine G.skip rfl rfl rfl rfl (rfl) rfl rfl ?_
                  refine G.skip rfl rfl rfl rfl (rfl) rfl rfl ?_
                  refine G.skip rfl rfl rfl rfl (rfl) rfl rfl ?_
                  refine G.skip rfl rfl rfl rfl (rfl) rfl rfl ?_
                  refine G.skip rfl rfl rfl rfl (rfl) rfl rfl ?_
                  refine G.skip rfl rfl rfl rfl (rfl) rfl rfl ?_
                  refine G.anyg rfl rfl (.pickT rfl rfl rfl) rfl rfl rfl (rfl) rfl rfl ?_
                  refine G.any rfl rfl (.pickT rfl rfl rfl) rfl rfl rfl ?_
                  refine G.any rfl rfl (.assign rfl) rfl rfl rfl ?_
                  refine G.nil ?_
                  refine E.thenN ?_
                  refine WC.ret ?_
                  refine E.retG1 rfl rfl ?_
                  exact ⟨rfl, L72⟩
                · refine G.anyg rfl rfl (.dec (.move rfl) (decide_eq_false q10_24)) rfl rfl rfl (rfl) rfl rfl ?_
                  refine G.anyg rfl rfl (.move rfl) rfl rfl rfl (rfl) rfl rfl ?_
                  refine G.rdg rfl rfl (.loadAll ag41 (by rfl) rfl f73) rfl rfl rfl (rfl) rfl rfl ?_
                  refine G.efg rfl rfl rfl rfl rfl (rfl) rfl rfl ?_
                  refine Ef.call go13 rfl rfl (averify_ok (base k) (signA k x no gone) (b_lt _) sg_r w10) ?_
                  rintro _ w10_27_5 ⟨rfl, h10_27_5⟩
                  refine ⟨_, rfl, ?_⟩
                  refine ⟨fun _ => h10_27_5, ?_⟩
                  have L75 := L72.trans h10_27_5
                  refine G.anyg rfl rfl (.pickF rfl rfl rfl) rfl rfl rfl (rfl) rfl rfl ?_
                  refine G.any rfl rfl (.pickT rfl rfl rfl) rfl rfl rfl ?_
                  refine G.any rfl rfl (.dec (.move rfl) (sg_ver hm (by assumption))) rfl rfl rfl ?_
                  refine G.anyg rfl rfl (.move rfl) rfl rfl rfl (rfl) rfl rfl ?_
                  refine G.anyg rfl rfl (.not rfl) rfl rfl rfl (rfl) rfl rfl ?_
                  refine G.anyg rfl rfl (.move rfl) rfl rfl rfl (rfl) rfl rfl ?_
                  refine G.skip rfl rfl rfl rfl (rfl) rfl rfl ?_
                  refine G.anyg rfl rfl (.pickT rfl rfl rfl) rfl rfl rfl (rfl) rfl rfl ?_
                  refine G.any rfl rfl (.pickT rfl rfl rfl) rfl rfl rfl ?_
                  refine G.any rfl rfl (.move rfl) rfl rfl rfl ?_
                  refine G.anyg rfl rfl (.move rfl) rfl rfl rfl (rfl) rfl rfl ?_
                  refine G.anyg rfl rfl (.not rfl) rfl rfl rfl (rfl) rfl rfl ?_
                  refine G.anyg rfl rfl (.move rfl) rfl rfl rfl (rfl) rfl rfl ?_
                  refine G.skip rfl rfl rfl rfl (rfl) rfl rfl ?_
                  refine G.skip rfl rfl rfl rfl (rfl) rfl rfl ?_
                  refine G.skip rfl rfl rfl rfl (rfl) rfl rfl ?_
                  refine G.skip rfl rfl rfl rfl (rfl) rfl rfl ?_
                  refine G.skip rfl rfl rfl rfl (rfl) rfl rfl ?_
                  refine G.skip rfl rfl rfl rfl (rfl) rfl rfl ?_
                  refine G.skip rfl rfl rfl rfl (rfl) rfl rfl ?_
                  refine G.anyg rfl rfl (.pickT rfl rfl rfl) rfl rfl rfl (rfl) rfl rfl ?_
                  refine G.any rfl rfl (.pickT rfl rfl rfl) rfl rfl rfl ?_
                  refine G.any rfl rfl (.assign rfl) rfl rfl rfl ?_
                  refine G.nil ?_
                  refine E.thenN ?_
                  refine WC.ret ?_
                  refine E.retG1 rfl rfl ?_
                  exact ⟨rfl, L75⟩
          · refine G.any rfl rfl (.dec (.move rfl) (decide_eq_false q8_8)) rfl rfl rfl ?_
            refine G.skip rfl rfl rfl rfl (rfl) rfl rfl ?_
            refine G.skip rfl rfl rfl rfl (rfl) rfl rfl ?_
            refine G.skip rfl rfl rfl rfl (rfl) rfl rfl ?_
            refine G.any rfl rfl (.pickF rfl rfl rfl) rfl rfl rfl ?_
            refine G.any rfl rfl (.move rfl) rfl rfl rfl ?_
            refine G.skip rfl rfl rfl rfl (rfl) rfl rfl ?_
            refine G.skip rfl rfl rfl rfl (rfl) rfl rfl ?_
            refine G.skip rfl rfl rfl rfl (rfl) rfl rfl ?_
            refine G.skip rfl rfl rfl rfl (rfl) rfl rfl ?_
            refine G.skip rfl rfl rfl rfl (rfl) rfl rfl ?_
            refine G.skip rfl rfl rfl rfl (rfl) rfl rfl ?_
            refine G.skip rfl rfl rfl rfl (rfl) rfl rfl ?_
            refine G.skip rfl rfl rfl rfl (rfl) rfl rfl ?_
            refine G.skip rfl rfl rfl rfl (rfl) rfl rfl ?_
            refine G.skip rfl rfl rfl rfl (rfl) rfl rfl ?_
            refine G.skip rfl rfl rfl rfl (rfl) rfl rfl ?_
            refine G.skip rfl rfl rfl rfl (rfl) rfl rfl ?_
            refine G.any rfl rfl (.pickF rfl rfl rfl) rfl rfl rfl ?_
            refine G.any rfl rfl (.assign rfl) rfl rfl rfl ?_
            refine G.nil ?_
            refine E.thenN ?_
            refine WC.seq ?_
            refine WC.region ?_
            refine W.any (.field0 fa41_0 rfl) rfl rfl rfl ?_
            refine W.rd (.bpart (edgeV ((oth other (signA k x no gone)).e)) ag34 rfl (by decide) rfl f17 rfl) rfl rfl rfl ?_
            have f76 := (((f8.le (h3_1.trans h6_1)).ch h7_3 (fun h => (show g0_1 ≠ g0_0 from by have := b0_0.lt; omega) (Option.some.inj h))).le (d8.trans h8_2))
            refine W.rd (.loadAll ag34 (by rfl) rfl f76) rfl rfl rfl ?_
            refine W.any (.eqA eg34 rfl rfl (eqv_edge (d := 9997) _ _)) rfl rfl rfl ?_
            by_cases q9_4 : ((oth other (signA k x no gone)).e) = x
            · refine W.any (.dec (.move rfl) (decide_eq_true q9_4)) rfl rfl rfl ?_
              refine W.rdg (Any.rd (.field0 fa41_1 rfl) _) rfl rfl rfl (rfl) rfl rfl ?_
              refine W.rdg (.loadB (v := .int .i64 ((oth other (signA k x no gone)).no)) na3 rfl f17 rfl) rfl rfl rfl (rfl) rfl rfl ?_
              refine W.rdg (Any.rd (.move rfl) _) rfl rfl rfl (rfl) rfl rfl ?_
              refine W.rdg (Any.rd (.eql rfl rfl) _) rfl rfl rfl (rfl) rfl rfl ?_
              refine W.any (.pickT rfl rfl rfl) rfl rfl rfl ?_
              by_cases q9_10 : ((oth other (signA k x no gone)).no) = no
              · refine W.any (.dec (.move rfl) (decide_eq_true q9_10)) rfl rfl rfl ?_
                refine W.rdg (Any.rd (.field0 fa41_2 rfl) _) rfl rfl rfl (rfl) rfl rfl ?_
                refine W.rdg (.loadB (v := .bool ((oth other (signA k x no gone)).gone)) na4 rfl f17 rfl) rfl rfl rfl (rfl) rfl rfl ?_
                refine W.rdg (Any.rd (.move rfl) _) rfl rfl rfl (rfl) rfl rfl ?_
                refine W.rdg (Any.rd (.beql Try.underlying4 rfl rfl) _) rfl rfl rfl (rfl) rfl rfl ?_
                refine W.any (.pickT rfl rfl rfl) rfl rfl rfl ?_
                refine W.any (.assign rfl) rfl rfl rfl ?_
                refine W.nil ?_
                refine E.thenN ?_
                refine WC.seq ?_
                refine WC.draw [0, 1, 2, 3, 4, 5, 6, 7, 8, 9, 10, 11, 12, 13, 14, 15, 16, 17, 18, 19, 20, 21, 22, 23, 24, 25, 26, 27, 28, 29, 30, 31, 32, 33, 34, 35, 36, 37, 38, 39, 40, 41, 42, 44, 45, 43, 46, 47, 48, 49, 50] mixed (by kernel_rfl) ?_
                intro w10 d10
                have L77 := L16.trans d10
                refine G.any rfl rfl (.move rfl) rfl rfl rfl ?_
                refine G.any rfl rfl (.move rfl) rfl rfl rfl ?_
                refine G.anyg rfl rfl (.field0 fa41_0 rfl) rfl rfl rfl (rfl) rfl rfl ?_
                have f78 := ((f11.ch h7_3 (fun h => (show g0_1 ≠ g2_5 from by have := b0_1.lt; have := h1_0.size; have := h2_4.size; omega) (Option.some.inj h))).le (d8.trans (h8_2.trans d10)))
                refine G.rdg rfl rfl (.bpart (edgeV ((signA k x no gone).e)) ag34 rfl (by decide) rfl f78 rfl) rfl rfl rfl (rfl) rfl rfl ?_
                have f79 := (f76.le d10)
                refine G.rdg rfl rfl (.loadAll ag34 (by rfl) rfl f79) rfl rfl rfl (rfl) rfl rfl ?_
                refine G.anyg rfl rfl (.dec (.eqA eg34 rfl rfl (eqv_edge (d := 9997) _ _)) (decide_eq_true (sg_e hm))) rfl rfl rfl (rfl) rfl rfl ?_
                refine G.any rfl rfl (.pickT rfl rfl rfl) rfl rfl rfl ?_
                refine G.any rfl rfl (.move rfl) rfl rfl rfl ?_
                refine G.anyg rfl rfl (.field0 fa41_1 rfl) rfl rfl rfl (rfl) rfl rfl ?_
                refine G.rdg rfl rfl (.loadB (v := .int .i64 ((signA k x no gone).no)) na3 rfl f78 rfl) rfl rfl rfl (rfl) rfl rfl ?_
                refine G.anyg rfl rfl (.move rfl) rfl rfl rfl (rfl) rfl rfl ?_
                refine G.anyg rfl rfl (.dec (.eql rfl rfl) (decide_eq_true (sg_no hm))) rfl rfl rfl (rfl) rfl rfl ?_
                refine G.any rfl rfl (.pickT rfl rfl rfl) rfl rfl rfl ?_
                refine G.any rfl rfl (.move rfl) rfl rfl rfl ?_
                refine G.anyg rfl rfl (.field0 fa41_2 rfl) rfl rfl rfl (rfl) rfl rfl ?_
                refine G.rdg rfl rfl (.loadB (v := .bool ((signA k x no gone).gone)) na4 rfl f78 rfl) rfl rfl rfl (rfl) rfl rfl ?_
                refine G.anyg rfl rfl (.move rfl) rfl rfl rfl (rfl) rfl rfl ?_
                refine G.anyg rfl rfl (.dec (.beql Try.underlying4 rfl rfl) (show ((signA k x no gone).gone == gone) = true from by simp [sg_gone hm])) rfl rfl rfl (rfl) rfl rfl ?_
                refine G.any rfl rfl (.pickT rfl rfl rfl) rfl rfl rfl ?_
                refine G.any rfl rfl (.move rfl) rfl rfl rfl ?_
                refine G.anyg rfl rfl (.field0 fa41_3 rfl) rfl rfl rfl (rfl) rfl rfl ?_
                refine G.rdg rfl rfl (.bpart (sigV ((signA k x no gone).sg)) ag39 rfl (by decide) rfl f78 rfl) rfl rfl rfl (rfl) rfl rfl ?_
                refine G.anyg rfl rfl (.buildP (sigV noSig) pl39 z39 rfl rfl) rfl rfl rfl (rfl) rfl rfl ?_
                refine G.anyg rfl rfl (.eqA eg39 rfl rfl (eqv_sigV (d := 9998) _ _)) rfl rfl rfl (rfl) rfl rfl ?_
                by_cases q10_24 : ((signA k x no gone).sg) = noSig
                · refine G.anyg rfl rfl (.dec (.move rfl) (decide_eq_true q10_24)) rfl rfl rfl (rfl) rfl rfl ?_
                  refine G.skip rfl rfl rfl rfl (rfl) rfl rfl ?_
                  refine G.skip rfl rfl rfl rfl (rfl) rfl rfl ?_
                  refine G.skip rfl rfl rfl rfl (rfl) rfl rfl ?_
                  refine G.anyg rfl rfl (.pickT rfl rfl rfl) rfl rfl rfl (rfl) rfl rfl ?_
                  refine G.any rfl rfl (.pickT rfl rfl rfl) rfl rfl rfl ?_
                  refine G.any rfl rfl (.move rfl) rfl rfl rfl ?_
                  refine G.anyg rfl rfl (.move rfl) rfl rfl rfl (rfl) rfl rfl ?_
                  refine G.anyg rfl rfl (.not rfl) rfl rfl rfl (rfl) rfl rfl ?_
                  by_cases q10_33 : (((oth other (signA k x no gone)).gone) == gone) = true
                  · refine G.anyg rfl rfl (.dec (.move rfl) (congrArg not (q10_33))) rfl rfl rfl (rfl) rfl rfl ?_
                    refine G.anyg rfl rfl (.move rfl) rfl rfl rfl (rfl) rfl rfl ?_
                    refine G.anyg rfl rfl (.pickF rfl rfl rfl) rfl rfl rfl (rfl) rfl rfl ?_
                    refine G.any rfl rfl (.pickT rfl rfl rfl) rfl rfl rfl ?_
                    refine G.any rfl rfl (.move rfl) rfl rfl rfl ?_
                    refine G.skip rfl rfl rfl rfl (rfl) rfl rfl ?_
                    refine G.skip rfl rfl rfl rfl (rfl) rfl rfl ?_
                    refine G.skip rfl rfl rfl rfl (rfl) rfl rfl ?_
                    refine G.skipu rfl rfl rfl rfl rfl rfl ?_
                    refine G.skipu rfl rfl rfl rfl rfl rfl ?_
                    refine G.skipu rfl rfl rfl rfl rfl rfl ?_
                    refine G.skipu rfl rfl rfl rfl rfl rfl ?_
                    refine G.skipu rfl rfl rfl rfl rfl rfl ?_
                    refine G.skipu rfl rfl rfl rfl rfl rfl ?_
                    refine G.skipu rfl rfl rfl rfl rfl rfl ?_
                    refine G.skip rfl rfl rfl rfl (rfl) rfl rfl ?_
                    refine G.any rfl rfl (.pickF rfl rfl rfl) rfl rfl rfl ?_
                    refine G.any rfl rfl (.assign rfl) rfl rfl rfl ?_
                    refine G.nil ?_
                    refine E.thenN ?_
                    refine WC.ret ?_
                    refine E.retG1 rfl rfl ?_
                    exfalso; have q1 : (oth other (signA k x no gone)).e = x := (by assumption); have q2 : (oth other (signA k x no gone)).no = no := (by assumption); have q3 : mayA (oth other (signA k x no gone)).e (oth other (signA k x no gone)).no = true := (by rw [q1, q2]; exact hm); obtain ⟨z1, z2, z3⟩ := mayA_T q3; first | omega | (exact absurd z1 (by assumption))
                  · refine G.anyg rfl rfl (.dec (.move rfl) (congrArg not ((Bool.eq_false_iff.2 q10_33)))) rfl rfl rfl (rfl) rfl rfl ?_
                    refine G.skip rfl rfl rfl rfl (rfl) rfl rfl ?_
                    refine G.anyg rfl rfl (.pickT rfl rfl rfl) rfl rfl rfl (rfl) rfl rfl ?_
                    refine G.any rfl rfl (.pickT rfl rfl rfl) rfl rfl rfl ?_
                    refine G.any rfl rfl (.move rfl) rfl rfl rfl ?_
                    refine G.anyg rfl rfl (.move rfl) rfl rfl rfl (rfl) rfl rfl ?_
                    refine G.anyg rfl rfl (.not rfl) rfl rfl rfl (rfl) rfl rfl ?_
                    refine G.anyg rfl rfl (.move rfl) rfl rfl rfl (rfl) rfl rfl ?_
                    refine G.skip rfl rfl rfl rfl (rfl) rfl rfl ?_
                    refine G.skip rfl rfl rfl rfl (rfl) rfl rfl ?_
                    refine G.skip rfl rfl rfl rfl (rfl) rfl rfl ?_
                    refine G.skip rfl rfl rfl rfl (rfl) rfl rfl ?_
                    refine G.skip rfl rfl rfl rfl (rfl) rfl rfl ?_
                    refine G.skip rfl rfl rfl rfl (rfl) rfl rfl ?_
                    refine G.skip rfl rfl rfl rfl (rfl) rfl rfl ?_
                    refine G.anyg rfl rfl (.pickT rfl rfl rfl) rfl rfl rfl (rfl) rfl rfl ?_
                    refine G.any rfl rfl (.pickT rfl rfl rfl) rfl rfl rfl ?_
                    refine G.any rfl rfl (.assign rfl) rfl rfl rfl ?_
                    refine G.nil ?_
                    refine E.thenN ?_
                    refine WC.ret ?_
                    refine E.retG1 rfl rfl ?_
                    exact ⟨rfl, L77⟩
                · refine G.anyg rfl rfl (.dec (.move rfl) (decide_eq_false q10_24)) rfl rfl rfl (rfl) rfl rfl ?_
                  refine G.anyg rfl rfl (.move rfl) rfl rfl rfl (rfl) rfl rfl ?_
                  refine G.rdg rfl rfl (.loadAll ag41 (by rfl) rfl f78) rfl rfl rfl (rfl) rfl rfl ?_
                  refine G.efg rfl rfl rfl rfl rfl (rfl) rfl rfl ?_
                  refine Ef.call go13 rfl rfl (averify_ok (base k) (signA k x no gone) (b_lt _) sg_r w10) ?_
                  rintro _ w10_27_6 ⟨rfl, h10_27_6⟩
                  refine ⟨_, rfl, ?_⟩
                  refine ⟨fun _ => h10_27_6, ?_⟩
                  have L80 := L77.trans h10_27_6
                  refine G.anyg rfl rfl (.pickF rfl rfl rfl) rfl rfl rfl (rfl) rfl rfl ?_
                  refine G.any rfl rfl (.pickT rfl rfl rfl) rfl rfl rfl ?_
                  refine G.any rfl rfl (.dec (.move rfl) (sg_ver hm (by assumption))) rfl rfl rfl ?_
                  refine G.anyg rfl rfl (.move rfl) rfl rfl rfl (rfl) rfl rfl ?_
                  refine G.anyg rfl rfl (.not rfl) rfl rfl rfl (rfl) rfl rfl ?_
                  by_cases q10_33 : (((oth other (signA k x no gone)).gone) == gone) = true
                  · refine G.anyg rfl rfl (.dec (.move rfl) (congrArg not (q10_33))) rfl rfl rfl (rfl) rfl rfl ?_
                    refine G.anyg rfl rfl (.move rfl) rfl rfl rfl (rfl) rfl rfl ?_
                    refine G.anyg rfl rfl (.pickF rfl rfl rfl) rfl rfl rfl (rfl) rfl rfl ?_
                    refine G.any rfl rfl (.pickT rfl rfl rfl) rfl rfl rfl ?_
                    refine G.any rfl rfl (.move rfl) rfl rfl rfl ?_
                    refine G.skip rfl rfl rfl rfl (rfl) rfl rfl ?_
                    refine G.skip rfl rfl rfl rfl (rfl) rfl rfl ?_
                    refine G.skip rfl rfl rfl rfl (rfl) rfl rfl ?_
                    refine G.skipu rfl rfl rfl rfl rfl rfl ?_
                    refine G.skipu rfl rfl rfl rfl rfl rfl ?_
                    refine G.skipu rfl rfl rfl rfl rfl rfl ?_
                    refine G.skipu rfl rfl rfl rfl rfl rfl ?_
                    refine G.skipu rfl rfl rfl rfl rfl rfl ?_
                    refine G.skipu rfl rfl rfl rfl rfl rfl ?_
                    refine G.skipu rfl rfl rfl rfl rfl rfl ?_
                    refine G.skip rfl rfl rfl rfl (rfl) rfl rfl ?_
                    refine G.any rfl rfl (.pickF rfl rfl rfl) rfl rfl rfl ?_
                    refine G.any rfl rfl (.assign rfl) rfl rfl rfl ?_
                    refine G.nil ?_
                    refine E.thenN ?_
                    refine WC.ret ?_
                    refine E.retG1 rfl rfl ?_
                    exfalso; have q1 : (oth other (signA k x no gone)).e = x := (by assumption); have q2 : (oth other (signA k x no gone)).no = no := (by assumption); have q3 : mayA (oth other (signA k x no gone)).e (oth other (signA k x no gone)).no = true := (by rw [q1, q2]; exact hm); obtain ⟨z1, z2, z3⟩ := mayA_T q3; first | omega | (exact absurd z1 (by assumption))
                  · refine G.anyg rfl rfl (.dec (.move rfl) (congrArg not ((Bool.eq_false_iff.2 q10_33)))) rfl rfl rfl (rfl) rfl rfl ?_
                    refine G.skip rfl rfl rfl rfl (rfl) rfl rfl ?_
                    refine G.anyg rfl rfl (.pickT rfl rfl rfl) rfl rfl rfl (rfl) rfl rfl ?_
                    refine G.any rfl rfl (.pickT rfl rfl rfl) rfl rfl rfl ?_
                    refine G.any rfl rfl (.move rfl) rfl rfl rfl ?_
                    refine G.anyg rfl rfl (.move rfl) rfl rfl rfl (rfl) rfl rfl ?_
                    refine G.anyg rfl rfl (.not rfl) rfl rfl rfl (rfl) rfl rfl ?_
                    refine G.anyg rfl rfl (.move rfl) rfl rfl rfl (rfl) rfl rfl ?_
                    refine G.skip rfl rfl rfl rfl (rfl) rfl rfl ?_
                    refine G.skip rfl rfl rfl rfl (rfl) rfl rfl ?_
                    refine G.skip rfl rfl rfl rfl (rfl) rfl rfl ?_
                    refine G.skip rfl rfl rfl rfl (rfl) rfl rfl ?_
                    refine G.skip rfl rfl rfl rfl (rfl) rfl rfl ?_
                    refine G.skip rfl rfl rfl rfl (rfl) rfl rfl ?_
                    refine G.skip rfl rfl rfl rfl (rfl) rfl rfl ?_
                    refine G.anyg rfl rfl (.pickT rfl rfl rfl) rfl rfl rfl (rfl) rfl rfl ?_
                    refine G.any rfl rfl (.pickT rfl rfl rfl) rfl rfl rfl ?_
                    refine G.any rfl rfl (.assign rfl) rfl rfl rfl ?_
                    refine G.nil ?_
                    refine E.thenN ?_
                    refine WC.ret ?_
                    refine E.retG1 rfl rfl ?_
                    exact ⟨rfl, L80⟩
              · refine W.any (.dec (.move rfl) (decide_eq_false q9_10)) rfl rfl rfl ?_
                refine W.skip rfl rfl rfl (rfl) rfl rfl ?_
                refine W.skip rfl rfl rfl (rfl) rfl rfl ?_
                refine W.skip rfl rfl rfl (rfl) rfl rfl ?_
                refine W.skip rfl rfl rfl (rfl) rfl rfl ?_
                refine W.any (.pickF rfl rfl rfl) rfl rfl rfl ?_
                refine W.any (.assign rfl) rfl rfl rfl ?_
                refine W.nil ?_
                refine E.thenN ?_
                refine WC.seq ?_
                refine WC.draw [0, 1, 2, 3, 4, 5, 6, 7, 8, 9, 10, 11, 12, 13, 14, 15, 16, 17, 18, 19, 20, 21, 22, 23, 24, 25, 26, 27, 28, 29, 30, 31, 32, 33, 34, 35, 36, 37, 38, 39, 40, 41, 42, 44, 45, 43, 46, 47, 48, 49, 50] mixed (by kernel_rfl) ?_
                intro w10 d10
                have L81 := L16.trans d10
                refine G.any rfl rfl (.move rfl) rfl rfl rfl ?_
                refine G.any rfl rfl (.move rfl) rfl rfl rfl ?_
                refine G.anyg rfl rfl (.field0 fa41_0 rfl) rfl rfl rfl (rfl) rfl rfl ?_
                have f82 := ((f11.ch h7_3 (fun h => (show g0_1 ≠ g2_5 from by have := b0_1.lt; have := h1_0.size; have := h2_4.size; omega) (Option.some.inj h))).le (d8.trans (h8_2.trans d10)))
                refine G.rdg rfl rfl (.bpart (edgeV ((signA k x no gone).e)) ag34 rfl (by decide) rfl f82 rfl) rfl rfl rfl (rfl) rfl rfl ?_
                have f83 := (f76.le d10)
                refine G.rdg rfl rfl (.loadAll ag34 (by rfl) rfl f83) rfl rfl rfl (rfl) rfl rfl ?_
                refine G.anyg rfl rfl (.dec (.eqA eg34 rfl rfl (eqv_edge (d := 9997) _ _)) (decide_eq_true (sg_e hm))) rfl rfl rfl (rfl) rfl rfl ?_
                refine G.any rfl rfl (.pickT rfl rfl rfl) rfl rfl rfl ?_
                refine G.any rfl rfl (.move rfl) rfl rfl rfl ?_
                refine G.anyg rfl rfl (.field0 fa41_1 rfl) rfl rfl rfl (rfl) rfl rfl ?_
                refine G.rdg rfl rfl (.loadB (v := .int .i64 ((signA k x no gone).no)) na3 rfl f82 rfl) rfl rfl rfl (rfl) rfl rfl ?_
                refine G.anyg rfl rfl (.move rfl) rfl rfl rfl (rfl) rfl rfl ?_
                refine G.anyg rfl rfl (.dec (.eql rfl rfl) (decide_eq_true (sg_no hm))) rfl rfl rfl (rfl) rfl rfl ?_
                refine G.any rfl rfl (.pickT rfl rfl rfl) rfl rfl rfl ?_
                refine G.any rfl rfl (.move rfl) rfl rfl rfl ?_
                refine G.anyg rfl rfl (.field0 fa41_2 rfl) rfl rfl rfl (rfl) rfl rfl ?_
                refine G.rdg rfl rfl (.loadB (v := .bool ((signA k x no gone).gone)) na4 rfl f82 rfl) rfl rfl rfl (rfl) rfl rfl ?_
                refine G.anyg rfl rfl (.move rfl) rfl rfl rfl (rfl) rfl rfl ?_
                refine G.anyg rfl rfl (.dec (.beql Try.underlying4 rfl rfl) (show ((signA k x no gone).gone == gone) = true from by simp [sg_gone hm])) rfl rfl rfl (rfl) rfl rfl ?_
                refine G.any rfl rfl (.pickT rfl rfl rfl) rfl rfl rfl ?_
                refine G.any rfl rfl (.move rfl) rfl rfl rfl ?_
                refine G.anyg rfl rfl (.field0 fa41_3 rfl) rfl rfl rfl (rfl) rfl rfl ?_
                refine G.rdg rfl rfl (.bpart (sigV ((signA k x no gone).sg)) ag39 rfl (by decide) rfl f82 rfl) rfl rfl rfl (rfl) rfl rfl ?_
                refine G.anyg rfl rfl (.buildP (sigV noSig) pl39 z39 rfl rfl) rfl rfl rfl (rfl) rfl rfl ?_
                refine G.anyg rfl rfl (.eqA eg39 rfl rfl (eqv_sigV (d := 9998) _ _)) rfl rfl rfl (rfl) rfl rfl ?_
                by_cases q10_24 : ((signA k x no gone).sg) = noSig
                · refine G.anyg rfl rfl (.dec (.move rfl) (decide_eq_true q10_24)) rfl rfl rfl (rfl) rfl rfl ?_
                  refine G.skip rfl rfl rfl rfl (rfl) rfl rfl ?_
                  refine G.skip rfl rfl rfl rfl (rfl) rfl rfl ?_
                  refine G.skip rfl rfl rfl rfl (rfl) rfl rfl ?_
                  refine G.anyg rfl rfl (.pickT rfl rfl rfl) rfl rfl rfl (rfl) rfl rfl ?_
                  refine G.any rfl rfl (.pickT rfl rfl rfl) rfl rfl rfl ?_
                  refine G.any rfl rfl (.move rfl) rfl rfl rfl ?_
                  refine G.anyg rfl rfl (.move rfl) rfl rfl rfl (rfl) rfl rfl ?_
                  refine G.anyg rfl rfl (.not rfl) rfl rfl rfl (rfl) rfl rfl ?_
                  refine G.anyg rfl rfl (.move rfl) rfl rfl rfl (rfl) rfl rfl ?_
                  refine G.skip rfl rfl rfl rfl (rfl) rfl rfl ?_
                  refine G.anyg rfl rfl (.pickT rfl rfl rfl) rfl rfl rfl (rfl) rfl rfl ?_
                  refine G.any rfl rfl (.pickT rfl rfl rfl) rfl rfl rfl ?_
                  refine G.any rfl rfl (.move rfl) rfl rfl rfl ?_
                  refine G.anyg rfl rfl (.move rfl) rfl rfl rfl (rfl) rfl rfl ?_
                  refine G.anyg rfl rfl (.not rfl) rfl rfl rfl (rfl) rfl rfl ?_
                  refine G.anyg rfl rfl (.move rfl) rfl rfl rfl (rfl) rfl rfl ?_
                  refine G.skip rfl rfl rfl rfl (rfl) rfl rfl ?_
                  refine G.skip rfl rfl rfl rfl (rfl) rfl rfl ?_
                  refine G.skip rfl rfl rfl rfl (rfl) rfl rfl ?_
                  refine G.skip rfl rfl rfl rfl (rfl) rfl rfl ?_
                  refine G.skip rfl rfl rfl rfl (rfl) rfl rfl ?_
                  refine G.skip rfl rfl rfl rfl (rfl) rfl rfl ?_
                  refine G.skip rfl rfl rfl rfl (rfl) rfl rfl ?_
                  refine G.anyg rfl rfl (.pickT rfl rfl rfl) rfl rfl rfl (rfl) rfl rfl ?_
                  refine G.any rfl rfl (.pickT rfl rfl rfl) rfl rfl rfl ?_
                  refine G.any rfl rfl (.assign rfl) rfl rfl rfl ?_
                  refine G.nil ?_
                  refine E.thenN ?_
                  refine WC.ret ?_
                  refine E.retG1 rfl rfl ?_
                  exact ⟨rfl, L81⟩
                · refine G.anyg rfl rfl (.dec (.move rfl) (decide_eq_false q10_24)) rfl rfl rfl (rfl) rfl rfl ?_
                  refine G.anyg rfl rfl (.move rfl) rfl rfl rfl (rfl) rfl rfl ?_
                  refine G.rdg rfl rfl (.loadAll ag41 (by rfl) rfl f82) rfl rfl rfl (rfl) rfl rfl ?_
                  refine G.efg rfl rfl rfl rfl rfl (rfl) rfl rfl ?_
                  refine Ef.call go13 rfl rfl (averify_ok (base k) (signA k x no gone) (b_lt _) sg_r w10) ?_
                  rintro _ w10_27_7 ⟨rfl, h10_27_7⟩
                  refine ⟨_, rfl, ?_⟩
                  refine ⟨fun _ => h10_27_7, ?_⟩
                  have L84 := L81.trans h10_27_7
                  refine G.anyg rfl rfl (.pickF rfl rfl rfl) rfl rfl rfl (rfl) rfl rfl ?_
                  refine G.any rfl rfl (.pickT rfl rfl rfl) rfl rfl rfl ?_
                  refine G.any rfl rfl (.dec (.move rfl) (sg_ver hm (by assumption))) rfl rfl rfl ?_
                  refine G.anyg rfl rfl (.move rfl) rfl rfl rfl (rfl) rfl rfl ?_
                  refine G.anyg rfl rfl (.not rfl) rfl rfl rfl (rfl) rfl rfl ?_
                  refine G.anyg rfl rfl (.move rfl) rfl rfl rfl (rfl) rfl rfl ?_
                  refine G.skip rfl rfl rfl rfl (rfl) rfl rfl ?_
                  refine G.anyg rfl rfl (.pickT rfl rfl rfl) rfl rfl rfl (rfl) rfl rfl ?_
                  refine G.any rfl rfl (.pickT rfl rfl rfl) rfl rfl rfl ?_
                  refine G.any rfl rfl (.move rfl) rfl rfl rfl ?_
                  refine G.anyg rfl rfl (.move rfl) rfl rfl rfl (rfl) rfl rfl ?_
                  refine G.anyg rfl rfl (.not rfl) rfl rfl rfl (rfl) rfl rfl ?_
                  refine G.anyg rfl rfl (.move rfl) rfl rfl rfl (rfl) rfl rfl ?_
                  refine G.skip rfl rfl rfl rfl (rfl) rfl rfl ?_
                  refine G.skip rfl rfl rfl rfl (rfl) rfl rfl ?_
                  refine G.skip rfl rfl rfl rfl (rfl) rfl rfl ?_
                  refine G.skip rfl rfl rfl rfl (rfl) rfl rfl ?_
                  refine G.skip rfl rfl rfl rfl (rfl) rfl rfl ?_
                  refine G.skip rfl rfl rfl rfl (rfl) rfl rfl ?_
                  refine G.skip rfl rfl rfl rfl (rfl) rfl rfl ?_
                  refine G.anyg rfl rfl (.pickT rfl rfl rfl) rfl rfl rfl (rfl) rfl rfl ?_
                  refine G.any rfl rfl (.pickT rfl rfl rfl) rfl rfl rfl ?_
                  refine G.any rfl rfl (.assign rfl) rfl rfl rfl ?_
                  refine G.nil ?_
                  refine E.thenN ?_
                  refine WC.ret ?_
                  refine E.retG1 rfl rfl ?_
                  exact ⟨rfl, L84⟩
            · refine W.any (.dec (.move rfl) (decide_eq_false q9_4)) rfl rfl rfl ?_
              refine W.skip rfl rfl rfl (rfl) rfl rfl ?_
              refine W.skip rfl rfl rfl (rfl) rfl rfl ?_
              refine W.skip rfl rfl rfl (rfl) rfl rfl ?_
              refine W.skip rfl rfl rfl (rfl) rfl rfl ?_
              refine W.any (.pickF rfl rfl rfl) rfl rfl rfl ?_
              refine W.any (.move rfl) rfl rfl rfl ?_
              refine W.skip rfl rfl rfl (rfl) rfl rfl ?_
              refine W.skip rfl rfl rfl (rfl) rfl rfl ?_
              refine W.skip rfl rfl rfl (rfl) rfl rfl ?_
              refine W.skip rfl rfl rfl (rfl) rfl rfl ?_
              refine W.any (.pickF rfl rfl rfl) rfl rfl rfl ?_
              refine W.any (.assign rfl) rfl rfl rfl ?_
              refine W.nil ?_
              refine E.thenN ?_
              refine WC.seq ?_
              refine WC.draw [0, 1, 2, 3, 4, 5, 6, 7, 8, 9, 10, 11, 12, 13, 14, 15, 16, 17, 18, 19, 20, 21, 22, 23, 24, 25, 26, 27, 28, 29, 30, 31, 32, 33, 34, 35, 36, 37, 38, 39, 40, 41, 42, 44, 45, 43, 46, 47, 48, 49, 50] mixed (by kernel_rfl) ?_
              intro w10 d10
              have L85 := L16.trans d10
              refine G.any rfl rfl (.move rfl) rfl rfl rfl ?_
              refine G.any rfl rfl (.move rfl) rfl rfl rfl ?_
              refine G.anyg rfl rfl (.field0 fa41_0 rfl) rfl rfl rfl (rfl) rfl rfl ?_
              have f86 := ((f11.ch h7_3 (fun h => (show g0_1 ≠ g2_5 from by have := b0_1.lt; have := h1_0.size; have := h2_4.size; omega) (Option.some.inj h))).le (d8.trans (h8_2.trans d10)))
              refine G.rdg rfl rfl (.bpart (edgeV ((signA k x no gone).e)) ag34 rfl (by decide) rfl f86 rfl) rfl rfl rfl (rfl) rfl rfl ?_
              have f87 := (f76.le d10)
              refine G.rdg rfl rfl (.loadAll ag34 (by rfl) rfl f87) rfl rfl rfl (rfl) rfl rfl ?_
              refine G.anyg rfl rfl (.dec (.eqA eg34 rfl rfl (eqv_edge (d := 9997) _ _)) (decide_eq_true (sg_e hm))) rfl rfl rfl (rfl) rfl rfl ?_
              refine G.any rfl rfl (.pickT rfl rfl rfl) rfl rfl rfl ?_
              refine G.any rfl rfl (.move rfl) rfl rfl rfl ?_
              refine G.anyg rfl rfl (.field0 fa41_1 rfl) rfl rfl rfl (rfl) rfl rfl ?_
              refine G.rdg rfl rfl (.loadB (v := .int .i64 ((signA k x no gone).no)) na3 rfl f86 rfl) rfl rfl rfl (rfl) rfl rfl ?_
              refine G.anyg rfl rfl (.move rfl) rfl rfl rfl (rfl) rfl rfl ?_
              refine G.anyg rfl rfl (.dec (.eql rfl rfl) (decide_eq_true (sg_no hm))) rfl rfl rfl (rfl) rfl rfl ?_
              refine G.any rfl rfl (.pickT rfl rfl rfl) rfl rfl rfl ?_
              refine G.any rfl rfl (.move rfl) rfl rfl rfl ?_
              refine G.anyg rfl rfl (.field0 fa41_2 rfl) rfl rfl rfl (rfl) rfl rfl ?_
              refine G.rdg rfl rfl (.loadB (v := .bool ((signA k x no gone).gone)) na4 rfl f86 rfl) rfl rfl rfl (rfl) rfl rfl ?_
              refine G.anyg rfl rfl (.move rfl) rfl rfl rfl (rfl) rfl rfl ?_
              refine G.anyg rfl rfl (.dec (.beql Try.underlying4 rfl rfl) (show ((signA k x no gone).gone == gone) = true from by simp [sg_gone hm])) rfl rfl rfl (rfl) rfl rfl ?_
              refine G.any rfl rfl (.pickT rfl rfl rfl) rfl rfl rfl ?_
              refine G.any rfl rfl (.move rfl) rfl rfl rfl ?_
              refine G.anyg rfl rfl (.field0 fa41_3 rfl) rfl rfl rfl (rfl) rfl rfl ?_
              refine G.rdg rfl rfl (.bpart (sigV ((signA k x no gone).sg)) ag39 rfl (by decide) rfl f86 rfl) rfl rfl rfl (rfl) rfl rfl ?_
              refine G.anyg rfl rfl (.buildP (sigV noSig) pl39 z39 rfl rfl) rfl rfl rfl (rfl) rfl rfl ?_
              refine G.anyg rfl rfl (.eqA eg39 rfl rfl (eqv_sigV (d := 9998) _ _)) rfl rfl rfl (rfl) rfl rfl ?_
              by_cases q10_24 : ((signA k x no gone).sg) = noSig
              · refine G.anyg rfl rfl (.dec (.move rfl) (decide_eq_true q10_24)) rfl rfl rfl (rfl) rfl rfl ?_
                refine G.skip rfl rfl rfl rfl (rfl) rfl rfl ?_
                refine G.skip rfl rfl rfl rfl (rfl) rfl rfl ?_
                refine G.skip rfl rfl rfl rfl (rfl) rfl rfl ?_
                refine G.anyg rfl rfl (.pickT rfl rfl rfl) rfl rfl rfl (rfl) rfl rfl ?_
                refine G.any rfl rfl (.pickT rfl rfl rfl) rfl rfl rfl ?_
                refine G.any rfl rfl (.move rfl) rfl rfl rfl ?_
                refine G.anyg rfl rfl (.move rfl) rfl rfl rfl (rfl) rfl rfl ?_
                refine G.anyg rfl rfl (.not rfl) rfl rfl rfl (rfl) rfl rfl ?_
                refine G.anyg rfl rfl (.move rfl) rfl rfl rfl (rfl) rfl rfl ?_
                refine G.skip rfl rfl rfl rfl (rfl) rfl rfl ?_
                refine G.anyg rfl rfl (.pickT rfl rfl rfl) rfl rfl rfl (rfl) rfl rfl ?_
                refine G.any rfl rfl (.pickT rfl rfl rfl) rfl rfl rfl ?_
                refine G.any rfl rfl (.move rfl) rfl rfl rfl ?_
                refine G.anyg rfl rfl (.move rfl) rfl rfl rfl (rfl) rfl rfl ?_
                refine G.anyg rfl rfl (.not rfl) rfl rfl rfl (rfl) rfl rfl ?_
                refine G.anyg rfl rfl (.move rfl) rfl rfl rfl (rfl) rfl rfl ?_
                refine G.skip rfl rfl rfl rfl (rfl) rfl rfl ?_
                refine G.skip rfl rfl rfl rfl (rfl) rfl rfl ?_
                refine G.skip rfl rfl rfl rfl (rfl) rfl rfl ?_
                refine G.skip rfl rfl rfl rfl (rfl) rfl rfl ?_
                refine G.skip rfl rfl rfl rfl (rfl) rfl rfl ?_
                refine G.skip rfl rfl rfl rfl (rfl) rfl rfl ?_
                refine G.skip rfl rfl rfl rfl (rfl) rfl rfl ?_
                refine G.anyg rfl rfl (.pickT rfl rfl rfl) rfl rfl rfl (rfl) rfl rfl ?_
                refine G.any rfl rfl (.pickT rfl rfl rfl) rfl rfl rfl ?_
                refine G.any rfl rfl (.assign rfl) rfl rfl rfl ?_
                refine G.nil ?_
                refine E.thenN ?_
                refine WC.ret ?_
                refine E.retG1 rfl rfl ?_
                exact ⟨rfl, L85⟩
              · refine G.anyg rfl rfl (.dec (.move rfl) (decide_eq_false q10_24)) rfl rfl rfl (rfl) rfl rfl ?_
                refine G.anyg rfl rfl (.move rfl) rfl rfl rfl (rfl) rfl rfl ?_
                refine G.rdg rfl rfl (.loadAll ag41 (by rfl) rfl f86) rfl rfl rfl (rfl) rfl rfl ?_
                refine G.efg rfl rfl rfl rfl rfl (rfl) rfl rfl ?_
                refine Ef.call go13 rfl rfl (averify_ok (base k) (signA k x no gone) (b_lt _) sg_r w10) ?_
                rintro _ w10_27_8 ⟨rfl, h10_27_8⟩
                refine ⟨_, rfl, ?_⟩
                refine ⟨fun _ => h10_27_8, ?_⟩
                have L88 := L85.trans h10_27_8
                refine G.anyg rfl rfl (.pickF rfl rfl rfl) rfl rfl rfl (rfl) rfl rfl ?_
                refine G.any rfl rfl (.pickT rfl rfl rfl) rfl rfl rfl ?_
                refine G.any rfl rfl (.dec (.move rfl) (sg_ver hm (by assumption))) rfl rfl rfl ?_
                refine G.anyg rfl rfl (.move rfl) rfl rfl rfl (rfl) rfl rfl ?_
                refine G.anyg rfl rfl (.not rfl) rfl rfl rfl (rfl) rfl rfl ?_
                refine G.anyg rfl rfl (.move rfl) rfl rfl rfl (rfl) rfl rfl ?_
                refine G.skip rfl rfl rfl rfl (rfl) rfl rfl ?_
                refine G.anyg rfl rfl (.pickT rfl rfl rfl) rfl rfl rfl (rfl) rfl rfl ?_
                refine G.any rfl rfl (.pickT rfl rfl rfl) rfl rfl rfl ?_
                refine G.any rfl rfl (.move rfl) rfl rfl rfl ?_
                refine G.anyg rfl rfl (.move rfl) rfl rfl rfl (rfl) rfl rfl ?_
                refine G.anyg rfl rfl (.not rfl) rfl rfl rfl (rfl) rfl rfl ?_
                refine G.anyg rfl rfl (.move rfl) rfl rfl rfl (rfl) rfl rfl ?_
                refine G.skip rfl rfl rfl rfl (rfl) rfl rfl ?_
                refine G.skip rfl rfl rfl rfl (rfl) rfl rfl ?_
                refine G.skip rfl rfl rfl rfl (rfl) rfl rfl ?_
                refine G.skip rfl rfl rfl rfl (rfl) rfl rfl ?_
                refine G.skip rfl rfl rfl rfl (rfl) rfl rfl ?_
                refine G.skip rfl rfl rfl rfl (rfl) rfl rfl ?_
                refine G.skip rfl rfl rfl rfl (rfl) rfl rfl ?_
                refine G.anyg rfl rfl (.pickT rfl rfl rfl) rfl rfl rfl (rfl) rfl rfl ?_
                refine G.any rfl rfl (.pickT rfl rfl rfl) rfl rfl rfl ?_
                refine G.any rfl rfl (.assign rfl) rfl rfl rfl ?_
                refine G.nil ?_
                refine E.thenN ?_
                refine WC.ret ?_
                refine E.retG1 rfl rfl ?_
                exact ⟨rfl, L88⟩
        · refine G.any rfl rfl (.dec (.move rfl) ((Bool.eq_false_iff.2 q8_3))) rfl rfl rfl ?_
          refine G.skip rfl rfl rfl rfl (rfl) rfl rfl ?_
          refine G.skip rfl rfl rfl rfl (rfl) rfl rfl ?_
          refine G.skip rfl rfl rfl rfl (rfl) rfl rfl ?_
          refine G.any rfl rfl (.pickF rfl rfl rfl) rfl rfl rfl ?_
          refine G.any rfl rfl (.move rfl) rfl rfl rfl ?_
          refine G.skip rfl rfl rfl rfl (rfl) rfl rfl ?_
          refine G.skip rfl rfl rfl rfl (rfl) rfl rfl ?_
          refine G.skip rfl rfl rfl rfl (rfl) rfl rfl ?_
          refine G.any rfl rfl (.pickF rfl rfl rfl) rfl rfl rfl ?_
          refine G.any rfl rfl (.move rfl) rfl rfl rfl ?_
          refine G.skip rfl rfl rfl rfl (rfl) rfl rfl ?_
          refine G.skip rfl rfl rfl rfl (rfl) rfl rfl ?_
          refine G.skip rfl rfl rfl rfl (rfl) rfl rfl ?_
          refine G.skip rfl rfl rfl rfl (rfl) rfl rfl ?_
          refine G.skip rfl rfl rfl rfl (rfl) rfl rfl ?_
          refine G.skip rfl rfl rfl rfl (rfl) rfl rfl ?_
          refine G.skip rfl rfl rfl rfl (rfl) rfl rfl ?_
          refine G.skip rfl rfl rfl rfl (rfl) rfl rfl ?_
          refine G.skip rfl rfl rfl rfl (rfl) rfl rfl ?_
          refine G.skip rfl rfl rfl rfl (rfl) rfl rfl ?_
          refine G.skip rfl rfl rfl rfl (rfl) rfl rfl ?_
          refine G.skip rfl rfl rfl rfl (rfl) rfl rfl ?_
          refine G.any rfl rfl (.pickF rfl rfl rfl) rfl rfl rfl ?_
          refine G.any rfl rfl (.assign rfl) rfl rfl rfl ?_
          refine G.nil ?_
          refine E.thenN ?_
          refine WC.seq ?_
          refine WC.region ?_
          refine W.any (.field0 fa41_0 rfl) rfl rfl rfl ?_
          have f89 := (f15.le h8_2)
          refine W.rd (.bpart (edgeV ((oth other (signA k x no gone)).e)) ag34 rfl (by decide) rfl f89 rfl) rfl rfl rfl ?_
          have f90 := (((f8.le (h3_1.trans h6_1)).ch h7_3 (fun h => (show g0_1 ≠ g0_0 from by have := b0_0.lt; omega) (Option.some.inj h))).le (d8.trans h8_2))
          refine W.rd (.loadAll ag34 (by rfl) rfl f90) rfl rfl rfl ?_
          refine W.any (.eqA eg34 rfl rfl (eqv_edge (d := 9997) _ _)) rfl rfl rfl ?_
          by_cases q9_4 : ((oth other (signA k x no gone)).e) = x
          · refine W.any (.dec (.move rfl) (decide_eq_true q9_4)) rfl rfl rfl ?_
            refine W.rdg (Any.rd (.field0 fa41_1 rfl) _) rfl rfl rfl (rfl) rfl rfl ?_
            refine W.rdg (.loadB (v := .int .i64 ((oth other (signA k x no gone)).no)) na3 rfl f89 rfl) rfl rfl rfl (rfl) rfl rfl ?_
            refine W.rdg (Any.rd (.move rfl) _) rfl rfl rfl (rfl) rfl rfl ?_
            refine W.rdg (Any.rd (.eql rfl rfl) _) rfl rfl rfl (rfl) rfl rfl ?_
            refine W.any (.pickT rfl rfl rfl) rfl rfl rfl ?_
            by_cases q9_10 : ((oth other (signA k x no gone)).no) = no
            · refine W.any (.dec (.move rfl) (decide_eq_true q9_10)) rfl rfl rfl ?_
              refine W.rdg (Any.rd (.field0 fa41_2 rfl) _) rfl rfl rfl (rfl) rfl rfl ?_
              refine W.rdg (.loadB (v := .bool ((oth other (signA k x no gone)).gone)) na4 rfl f89 rfl) rfl rfl rfl (rfl) rfl rfl ?_
              refine W.rdg (Any.rd (.move rfl) _) rfl rfl rfl (rfl) rfl rfl ?_
              refine W.rdg (Any.rd (.beql Try.underlying4 rfl rfl) _) rfl rfl rfl (rfl) rfl rfl ?_
              refine W.any (.pickT rfl rfl rfl) rfl rfl rfl ?_
              refine W.any (.assign rfl) rfl rfl rfl ?_
              refine W.nil ?_
              refine E.thenN ?_
              refine WC.seq ?_
              refine WC.draw [0, 1, 2, 3, 4, 5, 6, 7, 8, 9, 10, 11, 12, 13, 14, 15, 16, 17, 18, 19, 20, 21, 22, 23, 24, 25, 26, 27, 28, 29, 30, 31, 32, 33, 34, 35, 36, 37, 38, 39, 40, 41, 42, 44, 45, 43, 46, 47, 48, 49, 50] mixed (by kernel_rfl) ?_
              intro w10 d10
              have L91 := L16.trans d10
              refine G.any rfl rfl (.move rfl) rfl rfl rfl ?_
              refine G.any rfl rfl (.move rfl) rfl rfl rfl ?_
              refine G.anyg rfl rfl (.field0 fa41_0 rfl) rfl rfl rfl (rfl) rfl rfl ?_
              have f92 := ((f11.ch h7_3 (fun h => (show g0_1 ≠ g2_5 from by have := b0_1.lt; have := h1_0.size; have := h2_4.size; omega) (Option.some.inj h))).le (d8.trans (h8_2.trans d10)))
              refine G.rdg rfl rfl (.bpart (edgeV ((signA k x no gone).e)) ag34 rfl (by decide) rfl f92 rfl) rfl rfl rfl (rfl) rfl rfl ?_
              have f93 := (f90.le d10)
              refine G.rdg rfl rfl (.loadAll ag34 (by rfl) rfl f93) rfl rfl rfl (rfl) rfl rfl ?_
              refine G.anyg rfl rfl (.dec (.eqA eg34 rfl rfl (eqv_edge (d := 9997) _ _)) (decide_eq_true (sg_e hm))) rfl rfl rfl (rfl) rfl rfl ?_
              refine G.any rfl rfl (.pickT rfl rfl rfl) rfl rfl rfl ?_
              refine G.any rfl rfl (.move rfl) rfl rfl rfl ?_
              refine G.anyg rfl rfl (.field0 fa41_1 rfl) rfl rfl rfl (rfl) rfl rfl ?_
              refine G.rdg rfl rfl (.loadB (v := .int .i64 ((signA k x no gone).no)) na3 rfl f92 rfl) rfl rfl rfl (rfl) rfl rfl ?_
              refine G.anyg rfl rfl (.move rfl) rfl rfl rfl (rfl) rfl rfl ?_
              refine G.anyg rfl rfl (.dec (.eql rfl rfl) (decide_eq_true (sg_no hm))) rfl rfl rfl (rfl) rfl rfl ?_
              refine G.any rfl rfl (.pickT rfl rfl rfl) rfl rfl rfl ?_
              refine G.any rfl rfl (.move rfl) rfl rfl rfl ?_
              refine G.anyg rfl rfl (.field0 fa41_2 rfl) rfl rfl rfl (rfl) rfl rfl ?_
              refine G.rdg rfl rfl (.loadB (v := .bool ((signA k x no gone).gone)) na4 rfl f92 rfl) rfl rfl rfl (rfl) rfl rfl ?_
              refine G.anyg rfl rfl (.move rfl) rfl rfl rfl (rfl) rfl rfl ?_
              refine G.anyg rfl rfl (.dec (.beql Try.underlying4 rfl rfl) (show ((signA k x no gone).gone == gone) = true from by simp [sg_gone hm])) rfl rfl rfl (rfl) rfl rfl ?_
              refine G.any rfl rfl (.pickT rfl rfl rfl) rfl rfl rfl ?_
              refine G.any rfl rfl (.move rfl) rfl rfl rfl ?_
              refine G.anyg rfl rfl (.field0 fa41_3 rfl) rfl rfl rfl (rfl) rfl rfl ?_
              refine G.rdg rfl rfl (.bpart (sigV ((signA k x no gone).sg)) ag39 rfl (by decide) rfl f92 rfl) rfl rfl rfl (rfl) rfl rfl ?_
              refine G.anyg rfl rfl (.buildP (sigV noSig) pl39 z39 rfl rfl) rfl rfl rfl (rfl) rfl rfl ?_
              refine G.anyg rfl rfl (.eqA eg39 rfl rfl (eqv_sigV (d := 9998) _ _)) rfl rfl rfl (rfl) rfl rfl ?_
              by_cases q10_24 : ((signA k x no gone).sg) = noSig
              · refine G.anyg rfl rfl (.dec (.move rfl) (decide_eq_true q10_24)) rfl rfl rfl (rfl) rfl rfl ?_
                refine G.skip rfl rfl rfl rfl (rfl) rfl rfl ?_
                refine G.skip rfl rfl rfl rfl (rfl) rfl rfl ?_
                refine G.skip rfl rfl rfl rfl (rfl) rfl rfl ?_
                refine G.anyg rfl rfl (.pickT rfl rfl rfl) rfl rfl rfl (rfl) rfl rfl ?_
                refine G.any rfl rfl (.pickT rfl rfl rfl) rfl rfl rfl ?_
                refine G.any rfl rfl (.move rfl) rfl rfl rfl ?_
                refine G.anyg rfl rfl (.move rfl) rfl rfl rfl (rfl) rfl rfl ?_
                refine G.anyg rfl rfl (.not rfl) rfl rfl rfl (rfl) rfl rfl ?_
                by_cases q10_33 : (((oth other (signA k x no gone)).gone) == gone) = true
                · refine G.anyg rfl rfl (.dec (.move rfl) (congrArg not (q10_33))) rfl rfl rfl (rfl) rfl rfl ?_
                  refine G.anyg rfl rfl (.move rfl) rfl rfl rfl (rfl) rfl rfl ?_
                  refine G.anyg rfl rfl (.pickF rfl rfl rfl) rfl rfl rfl (rfl) rfl rfl ?_
                  refine G.any rfl rfl (.pickT rfl rfl rfl) rfl rfl rfl ?_
                  refine G.any rfl rfl (.move rfl) rfl rfl rfl ?_
                  refine G.skip rfl rfl rfl rfl (rfl) rfl rfl ?_
                  refine G.skip rfl rfl rfl rfl (rfl) rfl rfl ?_
                  refine G.skip rfl rfl rfl rfl (rfl) rfl rfl ?_
                  refine G.skipu rfl rfl rfl rfl rfl rfl ?_
                  refine G.skipu rfl rfl rfl rfl rfl rfl ?_
                  refine G.skipu rfl rfl rfl rfl rfl rfl ?_
                  refine G.skipu rfl rfl rfl rfl rfl rfl ?_
                  refine G.skipu rfl rfl rfl rfl rfl rfl ?_
                  refine G.skipu rfl rfl rfl rfl rfl rfl ?_
                  refine G.skipu rfl rfl rfl rfl rfl rfl ?_
                  refine G.skip rfl rfl rfl rfl (rfl) rfl rfl ?_
                  refine G.any rfl rfl (.pickF rfl rfl rfl) rfl rfl rfl ?_
                  refine G.any rfl rfl (.assign rfl) rfl rfl rfl ?_
                  refine G.nil ?_
                  refine E.thenN ?_
                  refine WC.ret ?_
                  refine E.retG1 rfl rfl ?_
                  exfalso; have q1 : (oth other (signA k x no gone)).e = x := (by assumption); have q2 : (oth other (signA k x no gone)).no = no := (by assumption); have q3 : mayA (oth other (signA k x no gone)).e (oth other (signA k x no gone)).no = true := (by rw [q1, q2]; exact hm); obtain ⟨z1, z2, z3⟩ := mayA_T q3; first | omega | (exact absurd z1 (by assumption))
                · refine G.anyg rfl rfl (.dec (.move rfl) (congrArg not ((Bool.eq_false_iff.2 q10_33)))) rfl rfl rfl (rfl) rfl rfl ?_
                  refine G.skip rfl rfl rfl rfl (rfl) rfl rfl ?_
                  refine G.anyg rfl rfl (.pickT rfl rfl rfl) rfl rfl rfl (rfl) rfl rfl ?_
                  refine G.any rfl rfl (.pickT rfl rfl rfl) rfl rfl rfl ?_
                  refine G.any rfl rfl (.move rfl) rfl rfl rfl ?_
                  refine G.anyg rfl rfl (.move rfl) rfl rfl rfl (rfl) rfl rfl ?_
                  refine G.anyg rfl rfl (.not rfl) rfl rfl rfl (rfl) rfl rfl ?_
                  refine G.anyg rfl rfl (.move rfl) rfl rfl rfl (rfl) rfl rfl ?_
                  refine G.skip rfl rfl rfl rfl (rfl) rfl rfl ?_
                  refine G.skip rfl rfl rfl rfl (rfl) rfl rfl ?_
                  refine G.skip rfl rfl rfl rfl (rfl) rfl rfl ?_
                  refine G.skip rfl rfl rfl rfl (rfl) rfl rfl ?_
                  refine G.skip rfl rfl rfl rfl (rfl) rfl rfl ?_
                  refine G.skip rfl rfl rfl rfl (rfl) rfl rfl ?_
                  refine G.skip rfl rfl rfl rfl (rfl) rfl rfl ?_
                  refine G.anyg rfl rfl (.pickT rfl rfl rfl) rfl rfl rfl (rfl) rfl rfl ?_
                  refine G.any rfl rfl (.pickT rfl rfl rfl) rfl rfl rfl ?_
                  refine G.any rfl rfl (.assign rfl) rfl rfl rfl ?_
                  refine G.nil ?_
                  refine E.thenN ?_
                  refine WC.ret ?_
                  refine E.retG1 rfl rfl ?_
                  exact ⟨rfl, L91⟩
              · refine G.anyg rfl rfl (.dec (.move rfl) (decide_eq_false q10_24)) rfl rfl rfl (rfl) rfl rfl ?_
                refine G.anyg rfl rfl (.move rfl) rfl rfl rfl (rfl) rfl rfl ?_
                refine G.rdg rfl rfl (.loadAll ag41 (by rfl) rfl f92) rfl rfl rfl (rfl) rfl rfl ?_
                refine G.efg rfl rfl rfl rfl rfl (rfl) rfl rfl ?_
                refine Ef.call go13 rfl rfl (averify_ok (base k) (signA k x no gone) (b_lt _) sg_r w10) ?_
                rintro _ w10_27_9 ⟨rfl, h10_27_9⟩
                refine ⟨_, rfl, ?_⟩
                refine ⟨fun _ => h10_27_9, ?_⟩
                have L94 := L91.trans h10_27_9
                refine G.anyg rfl rfl (.pickF rfl rfl rfl) rfl rfl rfl (rfl) rfl rfl ?_
                refine G.any rfl rfl (.pickT rfl rfl rfl) rfl rfl rfl ?_
                refine G.any rfl rfl (.dec (.move rfl) (sg_ver hm (by assumption))) rfl rfl rfl ?_
                refine G.anyg rfl rfl (.move rfl) rfl rfl rfl (rfl) rfl rfl ?_
                refine G.anyg rfl rfl (.not rfl) rfl rfl rfl (rfl) rfl rfl ?_
                by_cases q10_33 : (((oth other (signA k x no gone)).gone) == gone) = true
                · refine G.anyg rfl rfl (.dec (.move rfl) (congrArg not (q10_33))) rfl rfl rfl (rfl) rfl rfl ?_
                  refine G.anyg rfl rfl (.move rfl) rfl rfl rfl (rfl) rfl rfl ?_
                  refine G.anyg rfl rfl (.pickF rfl rfl rfl) rfl rfl rfl (rfl) rfl rfl ?_
                  refine G.any rfl rfl (.pickT rfl rfl rfl) rfl rfl rfl ?_
                  refine G.any rfl rfl (.move rfl) rfl rfl rfl ?_
                  refine G.skip rfl rfl rfl rfl (rfl) rfl rfl ?_
                  refine G.skip rfl rfl rfl rfl (rfl) rfl rfl ?_
                  refine G.skip rfl rfl rfl rfl (rfl) rfl rfl ?_
                  refine G.skipu rfl rfl rfl rfl rfl rfl ?_
                  refine G.skipu rfl rfl rfl rfl rfl rfl ?_
                  refine G.skipu rfl rfl rfl rfl rfl rfl ?_
                  refine G.skipu rfl rfl rfl rfl rfl rfl ?_
                  refine G.skipu rfl rfl rfl rfl rfl rfl ?_
                  refine G.skipu rfl rfl rfl rfl rfl rfl ?_
                  refine G.skipu rfl rfl rfl rfl rfl rfl ?_
                  refine G.skip rfl rfl rfl rfl (rfl) rfl rfl ?_
                  refine G.any rfl rfl (.pickF rfl rfl rfl) rfl rfl rfl ?_
                  refine G.any rfl rfl (.assign rfl) rfl rfl rfl ?_
                  refine G.nil ?_
                  refine E.thenN ?_
                  refine WC.ret ?_
                  refine E.retG1 rfl rfl ?_
                  exfalso; have q1 : (oth other (signA k x no gone)).e = x := (by assumption); have q2 : (oth other (signA k x no gone)).no = no := (by assumption); have q3 : mayA (oth other (signA k x no gone)).e (oth other (signA k x no gone)).no = true := (by rw [q1, q2]; exact hm); obtain ⟨z1, z2, z3⟩ := mayA_T q3; first | omega | (exact absurd z1 (by assumption))
                · refine G.anyg rfl rfl (.dec (.move rfl) (congrArg not ((Bool.eq_false_iff.2 q10_33)))) rfl rfl rfl (rfl) rfl rfl ?_
                  refine G.skip rfl rfl rfl rfl (rfl) rfl rfl ?_
                  refine G.anyg rfl rfl (.pickT rfl rfl rfl) rfl rfl rfl (rfl) rfl rfl ?_
                  refine G.any rfl rfl (.pickT rfl rfl rfl) rfl rfl rfl ?_
                  refine G.any rfl rfl (.move rfl) rfl rfl rfl ?_
                  refine G.anyg rfl rfl (.move rfl) rfl rfl rfl (rfl) rfl rfl ?_
                  refine G.anyg rfl rfl (.not rfl) rfl rfl rfl (rfl) rfl rfl ?_
                  refine G.anyg rfl rfl (.move rfl) rfl rfl rfl (rfl) rfl rfl ?_
                  refine G.skip rfl rfl rfl rfl (rfl) rfl rfl ?_
                  refine G.skip rfl rfl rfl rfl (rfl) rfl rfl ?_
                  refine G.skip rfl rfl rfl rfl (rfl) rfl rfl ?_
                  refine G.skip rfl rfl rfl rfl (rfl) rfl rfl ?_
                  refine G.skip rfl rfl rfl rfl (rfl) rfl rfl ?_
                  refine G.skip rfl rfl rfl rfl (rfl) rfl rfl ?_
                  refine G.skip rfl rfl rfl rfl (rfl) rfl rfl ?_
                  refine G.anyg rfl rfl (.pickT rfl rfl rfl) rfl rfl rfl (rfl) rfl rfl ?_
                  refine G.any rfl rfl (.pickT rfl rfl rfl) rfl rfl rfl ?_
                  refine G.any rfl rfl (.assign rfl) rfl rfl rfl ?_
                  refine G.nil ?_
                  refine E.thenN ?_
                  refine WC.ret ?_
                  refine E.retG1 rfl rfl ?_
                  exact ⟨rfl, L94⟩
            · refine W.any (.dec (.move rfl) (decide_eq_false q9_10)) rfl rfl rfl ?_
              refine W.skip rfl rfl rfl (rfl) rfl rfl ?_
              refine W.skip rfl rfl rfl (rfl) rfl rfl ?_
              refine W.skip rfl rfl rfl (rfl) rfl rfl ?_
              refine W.skip rfl rfl rfl (rfl) rfl rfl ?_
              refine W.any (.pickF rfl rfl rfl) rfl rfl rfl ?_
              refine W.any (.assign rfl) rfl rfl rfl ?_
              refine W.nil ?_
              refine E.thenN ?_
              refine WC.seq ?_
              refine WC.draw [0, 1, 2, 3, 4, 5, 6, 7, 8, 9, 10, 11, 12, 13, 14, 15, 16, 17, 18, 19, 20, 21, 22, 23, 24, 25, 26, 27, 28, 29, 30, 31, 32, 33, 34, 35, 36, 37, 38, 39, 40, 41, 42, 44, 45, 43, 46, 47, 48, 49, 50] mixed (by kernel_rfl) ?_
              intro w10 d10
              have L95 := L16.trans d10
              refine G.any rfl rfl (.move rfl) rfl rfl rfl ?_
              refine G.any rfl rfl (.move rfl) rfl rfl rfl ?_
              refine G.anyg rfl rfl (.field0 fa41_0 rfl) rfl rfl rfl (rfl) rfl rfl ?_
              have f96 := ((f11.ch h7_3 (fun h => (show g0_1 ≠ g2_5 from by have := b0_1.lt; have := h1_0.size; have := h2_4.size; omega) (Option.some.inj h))).le (d8.trans (h8_2.trans d10)))
              refine G.rdg rfl rfl (.bpart (edgeV ((signA k x no gone).e)) ag34 rfl (by decide) rfl f96 rfl) rfl rfl rfl (rfl) rfl rfl ?_
              have f97 := (f90.le d10)
              refine G.rdg rfl rfl (.loadAll ag34 (by rfl) rfl f97) rfl rfl rfl (rfl) rfl rfl ?_
              refine G.anyg rfl rfl (.dec (.eqA eg34 rfl rfl (eqv_edge (d := 9997) _ _)) (decide_eq_true (sg_e hm))) rfl rfl rfl (rfl) rfl rfl ?_
              refine G.any rfl rfl (.pickT rfl rfl rfl) rfl rfl rfl ?_
              refine G.any rfl rfl (.move rfl) rfl rfl rfl ?_
              refine G.anyg rfl rfl (.field0 fa41_1 rfl) rfl rfl rfl (rfl) rfl rfl ?_
              refine G.rdg rfl rfl (.loadB (v := .int .i64 ((signA k x no gone).no)) na3 rfl f96 rfl) rfl rfl rfl (rfl) rfl rfl ?_
              refine G.anyg rfl rfl (.move rfl) rfl rfl rfl (rfl) rfl rfl ?_
              refine G.anyg rfl rfl (.dec (.eql rfl rfl) (decide_eq_true (sg_no hm))) rfl rfl rfl (rfl) rfl rfl ?_
              refine G.any rfl rfl (.pickT rfl rfl rfl) rfl rfl rfl ?_
              refine G.any rfl rfl (.move rfl) rfl rfl rfl ?_
              refine G.anyg rfl rfl (.field0 fa41_2 rfl) rfl rfl rfl (rfl) rfl rfl ?_
              refine G.rdg rfl rfl (.loadB (v := .bool ((signA k x no gone).gone)) na4 rfl f96 rfl) rfl rfl rfl (rfl) rfl rfl ?_
              refine G.anyg rfl rfl (.move rfl) rfl rfl rfl (rfl) rfl rfl ?_
              refine G.anyg rfl rfl (.dec (.beql Try.underlying4 rfl rfl) (show ((signA k x no gone).gone == gone) = true from by simp [sg_gone hm])) rfl rfl rfl (rfl) rfl rfl ?_
              refine G.any rfl rfl (.pickT rfl rfl rfl) rfl rfl rfl ?_
              refine G.any rfl rfl (.move rfl) rfl rfl rfl ?_
              refine G.anyg rfl rfl (.field0 fa41_3 rfl) rfl rfl rfl (rfl) rfl rfl ?_
              refine G.rdg rfl rfl (.bpart (sigV ((signA k x no gone).sg)) ag39 rfl (by decide) rfl f96 rfl) rfl rfl rfl (rfl) rfl rfl ?_
              refine G.anyg rfl rfl (.buildP (sigV noSig) pl39 z39 rfl rfl) rfl rfl rfl (rfl) rfl rfl ?_
              refine G.anyg rfl rfl (.eqA eg39 rfl rfl (eqv_sigV (d := 9998) _ _)) rfl rfl rfl (rfl) rfl rfl ?_
              by_cases q10_24 : ((signA k x no gone).sg) = noSig
              · refine G.anyg rfl rfl (.dec (.move rfl) (decide_eq_true q10_24)) rfl rfl rfl (rfl) rfl rfl ?_
                refine G.skip rfl rfl rfl rfl (rfl) rfl rfl ?_
                refine G.skip rfl rfl rfl rfl (rfl) rfl rfl ?_
                refine G.skip rfl rfl rfl rfl (rfl) rfl rfl ?_
                refine G.anyg rfl rfl (.pickT rfl rfl rfl) rfl rfl rfl (rfl) rfl rfl ?_
                refine G.any rfl rfl (.pickT rfl rfl rfl) rfl rfl rfl ?_
                refine G.any rfl rfl (.move rfl) rfl rfl rfl ?_
                refine G.anyg rfl rfl (.move rfl) rfl rfl rfl (rfl) rfl rfl ?_
                refine G.anyg rfl rfl (.not rfl) rfl rfl rfl (rfl) rfl rfl ?_
                refine G.anyg rfl rfl (.move rfl) rfl rfl rfl (rfl) rfl rfl ?_
                refine G.skip rfl rfl rfl rfl (rfl) rfl rfl ?_
                refine G.anyg rfl rfl (.pickT rfl rfl rfl) rfl rfl rfl (rfl) rfl rfl ?_
                refine G.any rfl rfl (.pickT rfl rfl rfl) rfl rfl rfl ?_
                refine G.any rfl rfl (.move rfl) rfl rfl rfl ?_
                refine G.anyg rfl rfl (.move rfl) rfl rfl rfl (rfl) rfl rfl ?_
                refine G.anyg rfl rfl (.not rfl) rfl rfl rfl (rfl) rfl rfl ?_
                refine G.anyg rfl rfl (.move rfl) rfl rfl rfl (rfl) rfl rfl ?_
                refine G.skip rfl rfl rfl rfl (rfl) rfl rfl ?_
                refine G.skip rfl rfl rfl rfl (rfl) rfl rfl ?_
                refine G.skip rfl rfl rfl rfl (rfl) rfl rfl ?_
                refine G.skip rfl rfl rfl rfl (rfl) rfl rfl ?_
                refine G.skip rfl rfl rfl rfl (rfl) rfl rfl ?_
                refine G.skip rfl rfl rfl rfl (rfl) rfl rfl ?_
                refine G.skip rfl rfl rfl rfl (rfl) rfl rfl ?_
                refine G.anyg rfl rfl (.pickT rfl rfl rfl) rfl rfl rfl (rfl) rfl rfl ?_
                refine G.any rfl rfl (.pickT rfl rfl rfl) rfl rfl rfl ?_
                refine G.any rfl rfl (.assign rfl) rfl rfl rfl ?_
                refine G.nil ?_
                refine E.thenN ?_
                refine WC.ret ?_
                refine E.retG1 rfl rfl ?_
                exact ⟨rfl, L95⟩
              · refine G.anyg rfl rfl (.dec (.move rfl) (decide_eq_false q10_24)) rfl rfl rfl (rfl) rfl rfl ?_
                refine G.anyg rfl rfl (.move rfl) rfl rfl rfl (rfl) rfl rfl ?_
                refine G.rdg rfl rfl (.loadAll ag41 (by rfl) rfl f96) rfl rfl rfl (rfl) rfl rfl ?_
                refine G.efg rfl rfl rfl rfl rfl (rfl) rfl rfl ?_
                refine Ef.call go13 rfl rfl (averify_ok (base k) (signA k x no gone) (b_lt _) sg_r w10) ?_
                rintro _ w10_27_10 ⟨rfl, h10_27_10⟩
                refine ⟨_, rfl, ?_⟩
                refine ⟨fun _ => h10_27_10, ?_⟩
                have L98 := L95.trans h10_27_10
                refine G.anyg rfl rfl (.pickF rfl rfl rfl) rfl rfl rfl (rfl) rfl rfl ?_
                refine G.any rfl rfl (.pickT rfl rfl rfl) rfl rfl rfl ?_
                refine G.any rfl rfl (.dec (.move rfl) (sg_ver hm (by assumption))) rfl rfl rfl ?_
                refine G.anyg rfl rfl (.move rfl) rfl rfl rfl (rfl) rfl rfl ?_
                refine G.anyg rfl rfl (.not rfl) rfl rfl rfl (rfl) rfl rfl ?_
                refine G.anyg rfl rfl (.move rfl) rfl rfl rfl (rfl) rfl rfl ?_
                refine G.skip rfl rfl rfl rfl (rfl) rfl rfl ?_
                refine G.anyg rfl rfl (.pickT rfl rfl rfl) rfl rfl rfl (rfl) rfl rfl ?_
                refine G.any rfl rfl (.pickT rfl rfl rfl) rfl rfl rfl ?_
                refine G.any rfl rfl (.move rfl) rfl rfl rfl ?_
                refine G.anyg rfl rfl (.move rfl) rfl rfl rfl (rfl) rfl rfl ?_
                refine G.anyg rfl rfl (.not rfl) rfl rfl rfl (rfl) rfl rfl ?_
                refine G.anyg rfl rfl (.move rfl) rfl rfl rfl (rfl) rfl rfl ?_
                refine G.skip rfl rfl rfl rfl (rfl) rfl rfl ?_
                refine G.skip rfl rfl rfl rfl (rfl) rfl rfl ?_
                refine G.skip rfl rfl rfl rfl (rfl) rfl rfl ?_
                refine G.skip rfl rfl rfl rfl (rfl) rfl rfl ?_
                refine G.skip rfl rfl rfl rfl (rfl) rfl rfl ?_
                refine G.skip rfl rfl rfl rfl (rfl) rfl rfl ?_
                refine G.skip rfl rfl rfl rfl (rfl) rfl rfl ?_
                refine G.anyg rfl rfl (.pickT rfl rfl rfl) rfl rfl rfl (rfl) rfl rfl ?_
                refine G.any rfl rfl (.pickT rfl rfl rfl) rfl rfl rfl ?_
                refine G.any rfl rfl (.assign rfl) rfl rfl rfl ?_
                refine G.nil ?_
                refine E.thenN ?_
                refine WC.ret ?_
                refine E.retG1 rfl rfl ?_
                exact ⟨rfl, L98⟩
          · refine W.any (.dec (.move rfl) (decide_eq_false q9_4)) rfl rfl rfl ?_
            refine W.skip rfl rfl rfl (rfl) rfl rfl ?_
            refine W.skip rfl rfl rfl (rfl) rfl rfl ?_
            refine W.skip rfl rfl rfl (rfl) rfl rfl ?_
            refine W.skip rfl rfl rfl (rfl) rfl rfl ?_
            refine W.any (.pickF rfl rfl rfl) rfl rfl rfl ?_
            refine W.any (.move rfl) rfl rfl rfl ?_
            refine W.skip rfl rfl rfl (rfl) rfl rfl ?_
            refine W.skip rfl rfl rfl (rfl) rfl rfl ?_
            refine W.skip rfl rfl rfl (rfl) rfl rfl ?_
            refine W.skip rfl rfl rfl (rfl) rfl rfl ?_
            refine W.any (.pickF rfl rfl rfl) rfl rfl rfl ?_
            refine W.any (.assign rfl) rfl rfl rfl ?_
            refine W.nil ?_
            refine E.thenN ?_
            refine WC.seq ?_
            refine WC.draw [0, 1, 2, 3, 4, 5, 6, 7, 8, 9, 10, 11, 12, 13, 14, 15, 16, 17, 18, 19, 20, 21, 22, 23, 24, 25, 26, 27, 28, 29, 30, 31, 32, 33, 34, 35, 36, 37, 38, 39, 40, 41, 42, 44, 45, 43, 46, 47, 48, 49, 50] mixed (by kernel_rfl) ?_
            intro w10 d10
            have L99 := L16.trans d10
            refine G.any rfl rfl (.move rfl) rfl rfl rfl ?_
            refine G.any rfl rfl (.move rfl) rfl rfl rfl ?_
            refine G.anyg rfl rfl (.field0 fa41_0 rfl) rfl rfl rfl (rfl) rfl rfl ?_
            have f100 := ((f11.ch h7_3 (fun h => (show g0_1 ≠ g2_5 from by have := b0_1.lt; have := h1_0.size; have := h2_4.size; omega) (Option.some.inj h))).le (d8.trans (h8_2.trans d10)))
            refine G.rdg rfl rfl (.bpart (edgeV ((signA k x no gone).e)) ag34 rfl (by decide) rfl f100 rfl) rfl rfl rfl (rfl) rfl rfl ?_
            have f101 := (f90.le d10)
            refine G.rdg rfl rfl (.loadAll ag34 (by rfl) rfl f101) rfl rfl rfl (rfl) rfl rfl ?_
            refine G.anyg rfl rfl (.dec (.eqA eg34 rfl rfl (eqv_edge (d := 9997) _ _)) (decide_eq_true (sg_e hm))) rfl rfl rfl (rfl) rfl rfl ?_
            refine G.any rfl rfl (.pickT rfl rfl rfl) rfl rfl rfl ?_
            refine G.any rfl rfl (.move rfl) rfl rfl rfl ?_
            refine G.anyg rfl rfl (.field0 fa41_1 rfl) rfl rfl rfl (rfl) rfl rfl ?_
            refine G.rdg rfl rfl (.loadB (v := .int .i64 ((signA k x no gone).no)) na3 rfl f100 rfl) rfl rfl rfl (rfl) rfl rfl ?_
            refine G.anyg rfl rfl (.move rfl) rfl rfl rfl (rfl) rfl rfl ?_
            refine G.anyg rfl rfl (.dec (.eql rfl rfl) (decide_eq_true (sg_no hm))) rfl rfl rfl (rfl) rfl rfl ?_
            refine G.any rfl rfl (.pickT rfl rfl rfl) rfl rfl rfl ?_
            refine G.any rfl rfl (.move rfl) rfl rfl rfl ?_
            refine G.anyg rfl rfl (.field0 fa41_2 rfl) rfl rfl rfl (rfl) rfl rfl ?_
            refine G.rdg rfl rfl (.loadB (v := .bool ((signA k x no gone).gone)) na4 rfl f100 rfl) rfl rfl rfl (rfl) rfl rfl ?_
            refine G.anyg rfl rfl (.move rfl) rfl rfl rfl (rfl) rfl rfl ?_
            refine G.anyg rfl rfl (.dec (.beql Try.underlying4 rfl rfl) (show ((signA k x no gone).gone == gone) = true from by simp [sg_gone hm])) rfl rfl rfl (rfl) rfl rfl ?_
            refine G.any rfl rfl (.pickT rfl rfl rfl) rfl rfl rfl ?_
            refine G.any rfl rfl (.move rfl) rfl rfl rfl ?_
            refine G.anyg rfl rfl (.field0 fa41_3 rfl) rfl rfl rfl (rfl) rfl rfl ?_
            refine G.rdg rfl rfl (.bpart (sigV ((signA k x no gone).sg)) ag39 rfl (by decide) rfl f100 rfl) rfl rfl rfl (rfl) rfl rfl ?_
            refine G.anyg rfl rfl (.buildP (sigV noSig) pl39 z39 rfl rfl) rfl rfl rfl (rfl) rfl rfl ?_
            refine G.anyg rfl rfl (.eqA eg39 rfl rfl (eqv_sigV (d := 9998) _ _)) rfl rfl rfl (rfl) rfl rfl ?_
            by_cases q10_24 : ((signA k x no gone).sg) = noSig
            · refine G.anyg rfl rfl (.dec (.move rfl) (decide_eq_true q10_24)) rfl rfl rfl (rfl) rfl rfl ?_
              refine G.skip rfl rfl rfl rfl (rfl) rfl rfl ?_
              refine G.skip rfl rfl rfl rfl (rfl) rfl rfl ?_
              refine G.skip rfl rfl rfl rfl (rfl) rfl rfl ?_
              refine G.anyg rfl rfl (.pickT rfl rfl rfl) rfl rfl rfl (rfl) rfl rfl ?_
              refine G.any rfl rfl (.pickT rfl rfl rfl) rfl rfl rfl ?_
              refine G.any rfl rfl (.move rfl) rfl rfl rfl ?_
              refine G.anyg rfl rfl (.move rfl) rfl rfl rfl (rfl) rfl rfl ?_
              refine G.anyg rfl rfl (.not rfl) rfl rfl rfl (rfl) rfl rfl ?_
              refine G.anyg rfl rfl (.move rfl) rfl rfl rfl (rfl) rfl rfl ?_
              refine G.skip rfl rfl rfl rfl (rfl) rfl rfl ?_
              refine G.anyg rfl rfl (.pickT rfl rfl rfl) rfl rfl rfl (rfl) rfl rfl ?_
              refine G.any rfl rfl (.pickT rfl rfl rfl) rfl rfl rfl ?_
              refine G.any rfl rfl (.move rfl) rfl rfl rfl ?_
              refine G.anyg rfl rfl (.move rfl) rfl rfl rfl (rfl) rfl rfl ?_
              refine G.anyg rfl rfl (.not rfl) rfl rfl rfl (rfl) rfl rfl ?_
              refine G.anyg rfl rfl (.move rfl) rfl rfl rfl (rfl) rfl rfl ?_
              refine G.skip rfl rfl rfl rfl (rfl) rfl rfl ?_
              refine G.skip rfl rfl rfl rfl (rfl) rfl rfl ?_
              refine G.skip rfl rfl rfl rfl (rfl) rfl rfl ?_
              refine G.skip rfl rfl rfl rfl (rfl) rfl rfl ?_
              refine G.skip rfl rfl rfl rfl (rfl) rfl rfl ?_
              refine G.skip rfl rfl rfl rfl (rfl) rfl rfl ?_
              refine G.skip rfl rfl rfl rfl (rfl) rfl rfl ?_
              refine G.anyg rfl rfl (.pickT rfl rfl rfl) rfl rfl rfl (rfl) rfl rfl ?_
              refine G.any rfl rfl (.pickT rfl rfl rfl) rfl rfl rfl ?_
              refine G.any rfl rfl (.assign rfl) rfl rfl rfl ?_
              refine G.nil ?_
              refine E.thenN ?_
              refine WC.ret ?_
              refine E.retG1 rfl rfl ?_
              exact ⟨rfl, L99⟩
            · refine G.anyg rfl rfl (.dec (.move rfl) (decide_eq_false q10_24)) rfl rfl rfl (rfl) rfl rfl ?_
              refine G.anyg rfl rfl (.move rfl) rfl rfl rfl (rfl) rfl rfl ?_
              refine G.rdg rfl rfl (.loadAll ag41 (by rfl) rfl f100) rfl rfl rfl (rfl) rfl rfl ?_
              refine G.efg rfl rfl rfl rfl rfl (rfl) rfl rfl ?_
              refine Ef.call go13 rfl rfl (averify_ok (base k) (signA k x no gone) (b_lt _) sg_r w10) ?_
              rintro _ w10_27_11 ⟨rfl, h10_27_11⟩
              refine ⟨_, rfl, ?_⟩
              refine ⟨fun _ => h10_27_11, ?_⟩
              have L102 := L99.trans h10_27_11
              refine G.anyg rfl rfl (.pickF rfl rfl rfl) rfl rfl rfl (rfl) rfl rfl ?_
              refine G.any rfl rfl (.pickT rfl rfl rfl) rfl rfl rfl ?_
              refine G.any rfl rfl (.dec (.move rfl) (sg_ver hm (by assumption))) rfl rfl rfl ?_
              refine G.anyg rfl rfl (.move rfl) rfl rfl rfl (rfl) rfl rfl ?_
              refine G.anyg rfl rfl (.not rfl) rfl rfl rfl (rfl) rfl rfl ?_
              refine G.anyg rfl rfl (.move rfl) rfl rfl rfl (rfl) rfl rfl ?_
              refine G.skip rfl rfl rfl rfl (rfl) rfl rfl ?_
              refine G.anyg rfl rfl (.pickT rfl rfl rfl) rfl rfl rfl (rfl) rfl rfl ?_
              refine G.any rfl rfl (.pickT rfl rfl rfl) rfl rfl rfl ?_
              refine G.any rfl rfl (.move rfl) rfl rfl rfl ?_
              refine G.anyg rfl rfl (.move rfl) rfl rfl rfl (rfl) rfl rfl ?_
              refine G.anyg rfl rfl (.not rfl) rfl rfl rfl (rfl) rfl rfl ?_
              refine G.anyg rfl rfl (.move rfl) rfl rfl rfl (rfl) rfl rfl ?_
              refine G.skip rfl rfl rfl rfl (rfl) rfl rfl ?_
              refine G.skip rfl rfl rfl rfl (rfl) rfl rfl ?_
              refine G.skip rfl rfl rfl rfl (rfl) rfl rfl ?_
              refine G.skip rfl rfl rfl rfl (rfl) rfl rfl ?_
              refine G.skip rfl rfl rfl rfl (rfl) rfl rfl ?_
              refine G.skip rfl rfl rfl rfl (rfl) rfl rfl ?_
              refine G.skip rfl rfl rfl rfl (rfl) rfl rfl ?_
              refine G.anyg rfl rfl (.pickT rfl rfl rfl) rfl rfl rfl (rfl) rfl rfl ?_
              refine G.any rfl rfl (.pickT rfl rfl rfl) rfl rfl rfl ?_
              refine G.any rfl rfl (.assign rfl) rfl rfl rfl ?_
              refine G.nil ?_
              refine E.thenN ?_
              refine WC.ret ?_
              refine E.retG1 rfl rfl ?_
              exact ⟨rfl, L102⟩
      · refine WC.condY rfl (congrArg not (decide_eq_false c0)) ?_
        have hmf : mayA x no = false := by cases e : mayA x no; rfl; exfalso; obtain ⟨h1, h2, h3⟩ := mayA_T e; first | omega | (exact absurd h1 (by assumption))
        refine WC.seq ?_
        refine WC.draw [0, 1, 2, 3, 4, 5, 6, 7, 9, 8, 10, 11, 12, 13] mixed (by kernel_rfl) ?_
        intro w5 d5
        have L103 := L9.trans d5
        refine G.any rfl rfl (.move rfl) rfl rfl rfl ?_
        refine G.any rfl rfl (.move rfl) rfl rfl rfl ?_
        have f104 := (b2_6.le (h3_1.trans d5))
        refine G.rdg rfl rfl (.loadAll ag41 (by rfl) rfl f104) rfl rfl rfl (rfl) rfl rfl ?_
        refine G.anyg rfl rfl (.buildP (adV noAd) pl41 z41 rfl rfl) rfl rfl rfl (rfl) rfl rfl ?_
        refine G.anyg rfl rfl (.dec (.eqA eg41 rfl rfl (eqv_ad (d := 9996) _ _)) (decide_eq_true (sg_none hmf))) rfl rfl rfl (rfl) rfl rfl ?_
        refine G.any rfl rfl (.pickT rfl rfl rfl) rfl rfl rfl ?_
        refine G.any rfl rfl (.move rfl) rfl rfl rfl ?_
        refine G.anyg rfl rfl (.move rfl) rfl rfl rfl (rfl) rfl rfl ?_
        refine G.rdg rfl rfl (.loadAll ag41 (by rfl) rfl f104) rfl rfl rfl (rfl) rfl rfl ?_
        refine G.efg rfl rfl rfl rfl rfl (rfl) rfl rfl ?_
        refine Ef.call go14 rfl rfl (base_ok k w5) ?_
        rintro _ w5_8 ⟨rfl, h5_8⟩
        refine ⟨_, rfl, ?_⟩
        refine ⟨fun _ => h5_8, ?_⟩
        have L105 := L103.trans h5_8
        refine G.efg rfl rfl rfl rfl rfl (rfl) rfl rfl ?_
        refine Ef.call go13 rfl rfl (averify_ok (base k) (signA k x no gone) (b_lt _) sg_r w5_8) ?_
        rintro _ w5_10 ⟨rfl, h5_10⟩
        refine ⟨_, rfl, ?_⟩
        refine ⟨fun _ => h5_10, ?_⟩
        have L106 := L105.trans h5_10
        refine G.anyg rfl rfl (.dec (.not rfl) (congrArg not (ver_none _ _ hmf))) rfl rfl rfl (rfl) rfl rfl ?_
        refine G.any rfl rfl (.pickT rfl rfl rfl) rfl rfl rfl ?_
        refine G.any rfl rfl (.assign rfl) rfl rfl rfl ?_
        refine G.nil ?_
        refine E.thenN ?_
        refine WC.ret ?_
        refine E.thenR ?_
        refine E.retG1 rfl rfl ?_
        exact ⟨rfl, L106⟩
    · refine W.any (.dec (.move rfl) (decide_eq_false q3_6)) rfl rfl rfl ?_
      refine W.skip rfl rfl rfl (rfl) rfl rfl ?_
      refine W.skip rfl rfl rfl (rfl) rfl rfl ?_
      refine W.any (.pickF rfl rfl rfl) rfl rfl rfl ?_
      refine W.any (.assign rfl) rfl rfl rfl ?_
      refine W.nil ?_
      refine E.thenN ?_
      refine WC.seq ?_
      refine WC.seq ?_
      refine WC.region ?_
      refine W.any (.move rfl) rfl rfl rfl ?_
      refine W.any (.not rfl) rfl rfl rfl ?_
      refine W.nil ?_
      refine E.thenN ?_
      refine WC.condT rfl ?_
      have hmf : mayA x no = false := by cases e : mayA x no; rfl; exfalso; obtain ⟨h1, h2, h3⟩ := mayA_T e; first | omega | (exact absurd h1 (by assumption))
      refine WC.seq ?_
      refine WC.draw [0, 1, 2, 3, 4, 5, 6, 7, 9, 8, 10, 11, 12, 13] mixed (by kernel_rfl) ?_
      intro w5 d5
      have L107 := L9.trans d5
      refine G.any rfl rfl (.move rfl) rfl rfl rfl ?_
      refine G.any rfl rfl (.move rfl) rfl rfl rfl ?_
      have f108 := (b2_6.le (h3_1.trans d5))
      refine G.rdg rfl rfl (.loadAll ag41 (by rfl) rfl f108) rfl rfl rfl (rfl) rfl rfl ?_
      refine G.anyg rfl rfl (.buildP (adV noAd) pl41 z41 rfl rfl) rfl rfl rfl (rfl) rfl rfl ?_
      refine G.anyg rfl rfl (.dec (.eqA eg41 rfl rfl (eqv_ad (d := 9996) _ _)) (decide_eq_true (sg_none hmf))) rfl rfl rfl (rfl) rfl rfl ?_
      refine G.any rfl rfl (.pickT rfl rfl rfl) rfl rfl rfl ?_
      refine G.any rfl rfl (.move rfl) rfl rfl rfl ?_
      refine G.anyg rfl rfl (.move rfl) rfl rfl rfl (rfl) rfl rfl ?_
      refine G.rdg rfl rfl (.loadAll ag41 (by rfl) rfl f108) rfl rfl rfl (rfl) rfl rfl ?_
      refine G.efg rfl rfl rfl rfl rfl (rfl) rfl rfl ?_
      refine Ef.call go14 rfl rfl (base_ok k w5) ?_
      rintro _ w5_8_1 ⟨rfl, h5_8_1⟩
      refine ⟨_, rfl, ?_⟩
      refine ⟨fun _ => h5_8_1, ?_⟩
      have L109 := L107.trans h5_8_1
      refine G.efg rfl rfl rfl rfl rfl (rfl) rfl rfl ?_
      refine Ef.call go13 rfl rfl (averify_ok (base k) (signA k x no gone) (b_lt _) sg_r w5_8_1) ?_
      rintro _ w5_10_1 ⟨rfl, h5_10_1⟩
      refine ⟨_, rfl, ?_⟩
      refine ⟨fun _ => h5_10_1, ?_⟩
      have L110 := L109.trans h5_10_1
      refine G.anyg rfl rfl (.dec (.not rfl) (congrArg not (ver_none _ _ hmf))) rfl rfl rfl (rfl) rfl rfl ?_
      refine G.any rfl rfl (.pickT rfl rfl rfl) rfl rfl rfl ?_
      refine G.any rfl rfl (.assign rfl) rfl rfl rfl ?_
      refine G.nil ?_
      refine E.thenN ?_
      refine WC.ret ?_
      refine E.thenR ?_
      refine E.retG1 rfl rfl ?_
      exact ⟨rfl, L110⟩
  · refine W.any (.dec (.move rfl) ((Bool.eq_false_iff.2 q3_2))) rfl rfl rfl ?_
    refine W.skip rfl rfl rfl (rfl) rfl rfl ?_
    refine W.skip rfl rfl rfl (rfl) rfl rfl ?_
    refine W.any (.pickF rfl rfl rfl) rfl rfl rfl ?_
    refine W.any (.move rfl) rfl rfl rfl ?_
    refine W.skip rfl rfl rfl (rfl) rfl rfl ?_
    refine W.skip rfl rfl rfl (rfl) rfl rfl ?_
    refine W.any (.pickF rfl rfl rfl) rfl rfl rfl ?_
    refine W.any (.assign rfl) rfl rfl rfl ?_
    refine W.nil ?_
    refine E.thenN ?_
    refine WC.seq ?_
    refine WC.seq ?_
    refine WC.region ?_
    refine W.any (.move rfl) rfl rfl rfl ?_
    refine W.any (.not rfl) rfl rfl rfl ?_
    refine W.nil ?_
    refine E.thenN ?_
    refine WC.condT rfl ?_
    have hmf : mayA x no = false := by cases e : mayA x no; rfl; exfalso; obtain ⟨h1, h2, h3⟩ := mayA_T e; first | omega | (exact absurd h1 (by assumption))
    refine WC.seq ?_
    refine WC.draw [0, 1, 2, 3, 4, 5, 6, 7, 9, 8, 10, 11, 12, 13] mixed (by kernel_rfl) ?_
    intro w5 d5
    have L111 := L9.trans d5
    refine G.any rfl rfl (.move rfl) rfl rfl rfl ?_
    refine G.any rfl rfl (.move rfl) rfl rfl rfl ?_
    have f112 := (b2_6.le (h3_1.trans d5))
    refine G.rdg rfl rfl (.loadAll ag41 (by rfl) rfl f112) rfl rfl rfl (rfl) rfl rfl ?_
    refine G.anyg rfl rfl (.buildP (adV noAd) pl41 z41 rfl rfl) rfl rfl rfl (rfl) rfl rfl ?_
    refine G.anyg rfl rfl (.dec (.eqA eg41 rfl rfl (eqv_ad (d := 9996) _ _)) (decide_eq_true (sg_none hmf))) rfl rfl rfl (rfl) rfl rfl ?_
    refine G.any rfl rfl (.pickT rfl rfl rfl) rfl rfl rfl ?_
    refine G.any rfl rfl (.move rfl) rfl rfl rfl ?_
    refine G.anyg rfl rfl (.move rfl) rfl rfl rfl (rfl) rfl rfl ?_
    refine G.rdg rfl rfl (.loadAll ag41 (by rfl) rfl f112) rfl rfl rfl (rfl) rfl rfl ?_
    refine G.efg rfl rfl rfl rfl rfl (rfl) rfl rfl ?_
    refine Ef.call go14 rfl rfl (base_ok k w5) ?_
    rintro _ w5_8_2 ⟨rfl, h5_8_2⟩
    refine ⟨_, rfl, ?_⟩
    refine ⟨fun _ => h5_8_2, ?_⟩
    have L113 := L111.trans h5_8_2
    refine G.efg rfl rfl rfl rfl rfl (rfl) rfl rfl ?_
    refine Ef.call go13 rfl rfl (averify_ok (base k) (signA k x no gone) (b_lt _) sg_r w5_8_2) ?_
    rintro _ w5_10_2 ⟨rfl, h5_10_2⟩
    refine ⟨_, rfl, ?_⟩
    refine ⟨fun _ => h5_10_2, ?_⟩
    have L114 := L113.trans h5_10_2
    refine G.anyg rfl rfl (.dec (.not rfl) (congrArg not (ver_none _ _ hmf))) rfl rfl rfl (rfl) rfl rfl ?_
    refine G.any rfl rfl (.pickT rfl rfl rfl) rfl rfl rfl ?_
    refine G.any rfl rfl (.assign rfl) rfl rfl rfl ?_
    refine G.nil ?_
    refine E.thenN ?_
    refine WC.ret ?_
    refine E.thenR ?_
    refine E.retG1 rfl rfl ?_
    exact ⟨rfl, L114⟩

end Go.Proofs.Ytbpfhenbcgjpcaa

namespace Go.Sx
open Go Go.ChangeShapes Go.WideShapes Go.Deep
set_option linter.unusedVariables false
variable {H : Type} {enc : TypeId × Value → H} {P : Program} {w : World} {base : Nat} {spare : Nat → Bool} {held : Bool}
theorem read_u64 {e : TypeId} (he : P.underlying e = some (.int .u64)) : ∀ fuel cs x, DataW.trod enc P w base spare held fuel e cs = some x → ∃ q : Nat, cs = [.int .u64 ((q : Nat) : Int)] ∧ q < 18446744073709551616 := by
  intro fuel cs x h
  obtain ⟨n, rfl, _, hw⟩ := DataW.trod_int he h
  have := bounds_u64 hw
  exact ⟨n.toNat, by rw [show ((n.toNat : Nat) : Int) = n by omega], by omega⟩
theorem open_u64 {t : TypeId} {r : Reach} {b0 : Nat} {v : Value} {d : DataW H} {ps : List MemPlace} (ht : P.underlying t = some (.int .u64)) (hval : Value.okWide P w r b0 t v) (hd : DataW.Trod enc P w base spare held t v d ps) : ∃ q : Nat, v = .int .u64 ((q : Nat) : Int) ∧ q < 18446744073709551616 := by
  obtain ⟨a, rfl, rfl, rfl, s⟩ := open_int ht hval hd
  have := bounds_u64 s
  exact ⟨a.toNat, by rw [show ((a.toNat : Nat) : Int) = a by omega], by omega⟩
end Go.Sx

namespace Go.Sx
open Go Go.ChangeShapes Go.WideShapes Go.Deep
set_option linter.unusedVariables false
set_option linter.unusedSimpArgs false
variable {H : Type} {enc : TypeId × Value → H} {P : Program} {w : World} {base : Nat} {spare : Nat → Bool} {held : Bool}
def I64b (n : Int) : Prop := -9223372036854775808 ≤ n ∧ n ≤ 9223372036854775807
theorem cut1 {α : Type} (cs : List α) (o s : Nat) : cs.drop o = (cs.drop o).take s ++ cs.drop (o + s) := by
  rw [← List.drop_drop]
  exact (List.take_append_drop s (cs.drop o)).symm
theorem cut0 {α : Type} (cs : List α) : cs = cs.drop 0 := rfl
theorem cutN {α : Type} {cs : List α} {n : Nat} (h : cs.length = n) : cs.drop n = [] := List.drop_eq_nil_of_le (by omega)
theorem trod_fields {t : TypeId} {fs : Array Field} {fuel : Nat} {cs : List Value} {x : DataW H × List MemPlace} (ht : P.underlying t = some (.struct fs)) (h : DataW.trod enc P w base spare held fuel t cs = some x) :
    cs.length = P.cellsOf t ∧ ∃ m, ∀ (i : Nat) (f : Field), fs[i]? = some f → ∃ y, DataW.trod enc P w base spare held m f.type ((cs.drop f.offset).take (P.cellsOf f.type)) = some y := by
  obtain ⟨xs, m, _, _, hl, hxl, hi⟩ := DataW.trod_struct ht h
  refine ⟨hl, m, fun i f hf => ?_⟩
  have hlt : i < xs.length := by rw [hxl]; exact (Array.getElem?_eq_some_iff.1 hf).1
  exact ⟨_, (hi i f hf).trans (List.getElem?_eq_getElem hlt)⟩
theorem read_i64 {e : TypeId} (he : P.underlying e = some (.int .i64)) : ∀ fuel cs x, DataW.trod enc P w base spare held fuel e cs = some x → ∃ q : Int, cs = [.int .i64 q] ∧ I64b q := by
  intro fuel cs x h
  obtain ⟨n, rfl, _, hw⟩ := DataW.trod_int he h
  exact ⟨n, rfl, bounds_i64 hw⟩
theorem read_bool {e : TypeId} (he : P.underlying e = some .bool) : ∀ fuel cs x, DataW.trod enc P w base spare held fuel e cs = some x → ∃ q : Bool, cs = [.bool q] ∧ True := by
  intro fuel cs x h
  obtain ⟨b, rfl, _⟩ := DataW.trod_bool he h
  exact ⟨b, rfl, trivial⟩
theorem okWide_structG {t : TypeId} {fs : Array Field} {r : Reach} {b0 : Nat} {v : Value} (ht : P.underlying t = some (.struct fs)) (h : Value.okWide P w r b0 t v) : ∃ cs : Array Value, v = .agg cs := by
  simp only [Value.okWide, ht] at h
  obtain ⟨cs, h1, _⟩ := h
  exact ⟨cs, h1⟩
/-- A struct that is an argument itself. -/
theorem open_struct {α : Type} {f : α → List Value} {good : α → Prop} {t : TypeId} {fs : Array Field} {r : Reach} {b0 : Nat} {v : Value} {d : DataW H} {ps : List MemPlace} (ht : P.underlying t = some (.struct fs)) (hp : ∀ fuel cs x, DataW.trod enc P w base spare held fuel t cs = some x → ∃ q, cs = f q ∧ good q)
    (hval : Value.okWide P w r b0 t v) (hd : DataW.Trod enc P w base spare held t v d ps) : ∃ q : α, v = .agg (f q).toArray ∧ good q := by
  obtain ⟨cs, rfl⟩ := okWide_structG ht hval
  obtain ⟨fuel, h⟩ := hd
  obtain ⟨q, e, hg⟩ := hp _ _ _ h
  refine ⟨q, ?_, hg⟩
  congr 1
  apply Array.ext'
  exact e
end Go.Sx

namespace Go.Proofs.Ytbpfhenbcgjpcaa
open Go Go.Sx Go.Osp Go.Gsp Go.Asp Go.ChangeShapes Go.WideShapes Go.Deep
set_option linter.unusedVariables false
set_option linter.unusedSimpArgs false
set_option maxRecDepth 20000
variable {H : Type} {enc : TypeId × Value → H} {w : World} {base : Nat} {spare : Nat → Bool} {held : Bool}
abbrev GPol := Pol
abbrev GEdge := Gsp.Edge
abbrev GSig := Asp.Sig
abbrev GAd := Asp.Ad
abbrev GTold := Bsp.Told
def goodGPol (q : GPol) : Prop := I64b q.b ∧ I64b q.p ∧ I64b q.d ∧ I64b q.l ∧ I64b q.m
instance : Inhabited GPol := ⟨noPol⟩
theorem read_GPol : ∀ fuel cs x, DataW.trod enc Try.prog w base spare held fuel 32 cs = some x → ∃ q : GPol, cs = polV q ∧ goodGPol q := by
  intro fuel cs x h
  obtain ⟨hl, m, hi⟩ := trod_fields Try.underlying32 h
  rw [show Try.prog.cellsOf 32 = 5 by kernel_rfl] at hl
  obtain ⟨y0, k0⟩ := hi 0 _ rfl
  have k0 : DataW.trod enc Try.prog w base spare held m 3 ((cs.drop 0).take (Try.prog.cellsOf 3)) = some y0 := k0
  rw [show Try.prog.cellsOf 3 = 1 by kernel_rfl] at k0
  obtain ⟨q0, e0, g0⟩ := read_i64 Try.underlying3 _ _ _ k0
  obtain ⟨y1, k1⟩ := hi 1 _ rfl
  have k1 : DataW.trod enc Try.prog w base spare held m 3 ((cs.drop 1).take (Try.prog.cellsOf 3)) = some y1 := k1
  rw [show Try.prog.cellsOf 3 = 1 by kernel_rfl] at k1
  obtain ⟨q1, e1, g1⟩ := read_i64 Try.underlying3 _ _ _ k1
  obtain ⟨y2, k2⟩ := hi 2 _ rfl
  have k2 : DataW.trod enc Try.prog w base spare held m 3 ((cs.drop 2).take (Try.prog.cellsOf 3)) = some y2 := k2
  rw [show Try.prog.cellsOf 3 = 1 by kernel_rfl] at k2
  obtain ⟨q2, e2, g2⟩ := read_i64 Try.underlying3 _ _ _ k2
  obtain ⟨y3, k3⟩ := hi 3 _ rfl
  have k3 : DataW.trod enc Try.prog w base spare held m 3 ((cs.drop 3).take (Try.prog.cellsOf 3)) = some y3 := k3
  rw [show Try.prog.cellsOf 3 = 1 by kernel_rfl] at k3
  obtain ⟨q3, e3, g3⟩ := read_i64 Try.underlying3 _ _ _ k3
  obtain ⟨y4, k4⟩ := hi 4 _ rfl
  have k4 : DataW.trod enc Try.prog w base spare held m 3 ((cs.drop 4).take (Try.prog.cellsOf 3)) = some y4 := k4
  rw [show Try.prog.cellsOf 3 = 1 by kernel_rfl] at k4
  obtain ⟨q4, e4, g4⟩ := read_i64 Try.underlying3 _ _ _ k4
  have e := (cut0 cs).trans ((cut1 cs 0 1).trans (congrArg (List.take 1 (cs.drop 0) ++ ·) ((cut1 cs 1 1).trans (congrArg (List.take 1 (cs.drop 1) ++ ·) ((cut1 cs 2 1).trans (congrArg (List.take 1 (cs.drop 2) ++ ·) ((cut1 cs 3 1).trans (congrArg (List.take 1 (cs.drop 3) ++ ·) ((cut1 cs 4 1).trans (congrArg (List.take 1 (cs.drop 4) ++ ·) (cutN hl)))))))))))
  simp only [e0, e1, e2, e3, e4] at e
  exact ⟨⟨q0, q1, q2, q3, q4⟩, e, g0, g1, g2, g3, g4⟩
def goodGEdge (q : GEdge) : Prop := I64b q.f ∧ I64b q.t ∧ I64b q.c ∧ I64b q.r ∧ goodGPol q.pol
instance : Inhabited GEdge := ⟨noEdge⟩
theorem read_GEdge : ∀ fuel cs x, DataW.trod enc Try.prog w base spare held fuel 34 cs = some x → ∃ q : GEdge, cs = edgeV q ∧ goodGEdge q := by
  intro fuel cs x h
  obtain ⟨hl, m, hi⟩ := trod_fields Try.underlying34 h
  rw [show Try.prog.cellsOf 34 = 9 by kernel_rfl] at hl
  obtain ⟨y0, k0⟩ := hi 0 _ rfl
  have k0 : DataW.trod enc Try.prog w base spare held m 3 ((cs.drop 0).take (Try.prog.cellsOf 3)) = some y0 := k0
  rw [show Try.prog.cellsOf 3 = 1 by kernel_rfl] at k0
  obtain ⟨q0, e0, g0⟩ := read_i64 Try.underlying3 _ _ _ k0
  obtain ⟨y1, k1⟩ := hi 1 _ rfl
  have k1 : DataW.trod enc Try.prog w base spare held m 3 ((cs.drop 1).take (Try.prog.cellsOf 3)) = some y1 := k1
  rw [show Try.prog.cellsOf 3 = 1 by kernel_rfl] at k1
  obtain ⟨q1, e1, g1⟩ := read_i64 Try.underlying3 _ _ _ k1
  obtain ⟨y2, k2⟩ := hi 2 _ rfl
  have k2 : DataW.trod enc Try.prog w base spare held m 3 ((cs.drop 2).take (Try.prog.cellsOf 3)) = some y2 := k2
  rw [show Try.prog.cellsOf 3 = 1 by kernel_rfl] at k2
  obtain ⟨q2, e2, g2⟩ := read_i64 Try.underlying3 _ _ _ k2
  obtain ⟨y3, k3⟩ := hi 3 _ rfl
  have k3 : DataW.trod enc Try.prog w base spare held m 3 ((cs.drop 3).take (Try.prog.cellsOf 3)) = some y3 := k3
  rw [show Try.prog.cellsOf 3 = 1 by kernel_rfl] at k3
  obtain ⟨q3, e3, g3⟩ := read_i64 Try.underlying3 _ _ _ k3
  obtain ⟨y4, k4⟩ := hi 4 _ rfl
  have k4 : DataW.trod enc Try.prog w base spare held m 32 ((cs.drop 4).take (Try.prog.cellsOf 32)) = some y4 := k4
  rw [show Try.prog.cellsOf 32 = 5 by kernel_rfl] at k4
  obtain ⟨q4, e4, g4⟩ := read_GPol _ _ _ k4
  have e := (cut0 cs).trans ((cut1 cs 0 1).trans (congrArg (List.take 1 (cs.drop 0) ++ ·) ((cut1 cs 1 1).trans (congrArg (List.take 1 (cs.drop 1) ++ ·) ((cut1 cs 2 1).trans (congrArg (List.take 1 (cs.drop 2) ++ ·) ((cut1 cs 3 1).trans (congrArg (List.take 1 (cs.drop 3) ++ ·) ((cut1 cs 4 5).trans (congrArg (List.take 5 (cs.drop 4) ++ ·) (cutN hl)))))))))))
  simp only [e0, e1, e2, e3, e4] at e
  exact ⟨⟨q0, q1, q2, q3, q4⟩, e, g0, g1, g2, g3, g4⟩
def goodGSig (q : GSig) : Prop := q.r < 18446744073709551616 ∧ q.s < 18446744073709551616
instance : Inhabited GSig := ⟨noSig⟩
theorem read_GSig : ∀ fuel cs x, DataW.trod enc Try.prog w base spare held fuel 39 cs = some x → ∃ q : GSig, cs = sigV q ∧ goodGSig q := by
  intro fuel cs x h
  obtain ⟨hl, m, hi⟩ := trod_fields Try.underlying39 h
  rw [show Try.prog.cellsOf 39 = 2 by kernel_rfl] at hl
  obtain ⟨y0, k0⟩ := hi 0 _ rfl
  have k0 : DataW.trod enc Try.prog w base spare held m 36 ((cs.drop 0).take (Try.prog.cellsOf 36)) = some y0 := k0
  rw [show Try.prog.cellsOf 36 = 1 by kernel_rfl] at k0
  obtain ⟨q0, e0, g0⟩ := read_u64 Try.underlying36 _ _ _ k0
  obtain ⟨y1, k1⟩ := hi 1 _ rfl
  have k1 : DataW.trod enc Try.prog w base spare held m 37 ((cs.drop 1).take (Try.prog.cellsOf 37)) = some y1 := k1
  rw [show Try.prog.cellsOf 37 = 1 by kernel_rfl] at k1
  obtain ⟨q1, e1, g1⟩ := read_u64 Try.underlying37 _ _ _ k1
  have e := (cut0 cs).trans ((cut1 cs 0 1).trans (congrArg (List.take 1 (cs.drop 0) ++ ·) ((cut1 cs 1 1).trans (congrArg (List.take 1 (cs.drop 1) ++ ·) (cutN hl)))))
  simp only [e0, e1] at e
  exact ⟨⟨q0, q1⟩, e, g0, g1⟩
def goodGAd (q : GAd) : Prop := goodGEdge q.e ∧ I64b q.no ∧ True ∧ goodGSig q.sg
instance : Inhabited GAd := ⟨noAd⟩
theorem read_GAd : ∀ fuel cs x, DataW.trod enc Try.prog w base spare held fuel 41 cs = some x → ∃ q : GAd, cs = adV q ∧ goodGAd q := by
  intro fuel cs x h
  obtain ⟨hl, m, hi⟩ := trod_fields Try.underlying41 h
  rw [show Try.prog.cellsOf 41 = 13 by kernel_rfl] at hl
  obtain ⟨y0, k0⟩ := hi 0 _ rfl
  have k0 : DataW.trod enc Try.prog w base spare held m 34 ((cs.drop 0).take (Try.prog.cellsOf 34)) = some y0 := k0
  rw [show Try.prog.cellsOf 34 = 9 by kernel_rfl] at k0
  obtain ⟨q0, e0, g0⟩ := read_GEdge _ _ _ k0
  obtain ⟨y1, k1⟩ := hi 1 _ rfl
  have k1 : DataW.trod enc Try.prog w base spare held m 3 ((cs.drop 9).take (Try.prog.cellsOf 3)) = some y1 := k1
  rw [show Try.prog.cellsOf 3 = 1 by kernel_rfl] at k1
  obtain ⟨q1, e1, g1⟩ := read_i64 Try.underlying3 _ _ _ k1
  obtain ⟨y2, k2⟩ := hi 2 _ rfl
  have k2 : DataW.trod enc Try.prog w base spare held m 4 ((cs.drop 10).take (Try.prog.cellsOf 4)) = some y2 := k2
  rw [show Try.prog.cellsOf 4 = 1 by kernel_rfl] at k2
  obtain ⟨q2, e2, g2⟩ := read_bool Try.underlying4 _ _ _ k2
  obtain ⟨y3, k3⟩ := hi 3 _ rfl
  have k3 : DataW.trod enc Try.prog w base spare held m 39 ((cs.drop 11).take (Try.prog.cellsOf 39)) = some y3 := k3
  rw [show Try.prog.cellsOf 39 = 2 by kernel_rfl] at k3
  obtain ⟨q3, e3, g3⟩ := read_GSig _ _ _ k3
  have e := (cut0 cs).trans ((cut1 cs 0 9).trans (congrArg (List.take 9 (cs.drop 0) ++ ·) ((cut1 cs 9 1).trans (congrArg (List.take 1 (cs.drop 9) ++ ·) ((cut1 cs 10 1).trans (congrArg (List.take 1 (cs.drop 10) ++ ·) ((cut1 cs 11 2).trans (congrArg (List.take 2 (cs.drop 11) ++ ·) (cutN hl)))))))))
  simp only [e0, e1, e2, e3] at e
  exact ⟨⟨q0, q1, q2, q3⟩, e, g0, g1, g2, g3⟩
theorem open_gedge {r : Reach} {b0 : Nat} {v : Value} {d : DataW H} {ps : List MemPlace} (hval : Value.okWide Try.prog w r b0 34 v) (hd : DataW.Trod enc Try.prog w base spare held 34 v d ps) : ∃ q : GEdge, v = .agg (edgeV q).toArray ∧ goodGEdge q := open_struct Try.underlying34 read_GEdge hval hd
theorem open_gad {r : Reach} {b0 : Nat} {v : Value} {d : DataW H} {ps : List MemPlace} (hval : Value.okWide Try.prog w r b0 41 v) (hd : DataW.Trod enc Try.prog w base spare held 41 v d ps) : ∃ q : GAd, v = .agg (adV q).toArray ∧ goodGAd q := open_struct Try.underlying41 read_GAd hval hd
instance : Inhabited GTold := ⟨Bsp.noTold⟩
end Go.Proofs.Ytbpfhenbcgjpcaa

