/- GossipFlood: for every input the law answers true and leaves its arguments as they were. -/
import Derived.Test.YtbpfhenbcgjpcaaGossipFloodL
import Derived.OrdersHeld
import Derived.WalkKit
import Derived.Deep.AppendSrc
import Derived.Deep.MidRow
import Derived.Laws.OwnMore
import Derived.WalkSpells
import Derived.Lib.ConvBytes
import Derived.Lib.AppendZerosOnto
import Derived.Laws.StructEq
import Derived.Maps.RangeRun
import Derived.Laws.Pointers
import Derived.Test.YtbpfhenbcgjpcaaProg
import Derived.KernelRfl
import Derived.Lib.Mul64
import Derived.Shelf.SlSortCmp.NoneTotal
import Derived.Lib.QuietBelow
import Derived.Ground.SlsfProg
import Derived.ProofKit
import Derived.OpenShut
import Derived.ShutString
import Derived.ChangeOld
import Derived.Below
import Derived.Deep.Slices
namespace Go.Proofs.Ytbpfhenbcgjpcaa
open Go Go.Sx Go.Hsp Go.Num Go.Osp Go.Gsp Go.Asp Go.Bsp
set_option maxRecDepth 20000
set_option linter.unusedSimpArgs false
set_option linter.unusedVariables false

def ed0 (x : Gsp.Edge) : Gsp.Edge := { x with f := 0 }
theorem GossipFlood_ok (k : Nat) (x : Gsp.Edge) (many h : Int) (w : World) : Calls Try.prog 5 #[.int .u64 (((k : Nat) : Int)), .agg (edgeV x).toArray, .int .i64 (many), .int .i64 (h)] w fun r w' => r = .returned (.bool true) ∧ Le w w' := by
  refine enter Try.func5 rfl rfl ?_
  have L0 := Le.refl w
  refine WC.seq ?_
  refine WC.region ?_
  refine W.ef rfl rfl rfl ?_
  refine Ef.boxA rfl ?_
  intro g0_0 w0_0 hg0_0 b0_0 h0_0
  have L1 := L0.trans h0_0
  have b0_0 : Blk w0_0 g0_0 34 (edgeV x).toArray := b0_0
  refine W.any (.assign rfl) rfl rfl rfl ?_
  refine W.nil ?_
  refine E.thenN ?_
  refine WC.seq ?_
  refine WC.region ?_
  refine W.ef rfl rfl rfl ?_
  refine Ef.call go7 rfl rfl (small35_ok w0_0) ?_
  rintro _ w1_0 ⟨rfl, h1_0⟩
  refine ⟨_, rfl, ?_⟩
  have L2 := L1.trans h1_0
  refine W.any (.assign rfl) rfl rfl rfl ?_
  refine W.nil ?_
  refine E.thenN ?_
  refine WC.seq ?_
  refine WC.region ?_
  refine W.any (.field0 fa34_0 rfl) rfl rfl rfl ?_
  have f3 := (b0_0.le h1_0)
  refine W.ef0 rfl rfl ?_
  refine Ef.store sz3 rfl rfl f3 (by first | decide | (simp; done) | simp [edgeV_row.len]) (rfl) ?_
  intro w2_1 b2_1 h2_1
  have b2_1 : Blk w2_1 g0_0 34 (edgeV (ed0 x)).toArray := b2_1
  have L4 : Le w w2_1 := L2.then_ h2_1 (fun q hq => by cases hq; exact Nat.le_trans L0.size hg0_0)
  refine W.nil ?_
  refine E.thenN ?_
  refine WC.seq ?_
  refine WC.region ?_
  refine W.any (.move rfl) rfl rfl rfl ?_
  refine W.ef rfl rfl rfl ?_
  refine Ef.call go14 rfl rfl (base_ok k w2_1) ?_
  rintro _ w3_1 ⟨rfl, h3_1⟩
  refine ⟨_, rfl, ?_⟩
  have L5 := L4.trans h3_1
  refine W.ef rfl rfl rfl ?_
  refine Ef.buildSliceV (len := 1) [_] Try.underlying22 el36 rfl (by simp [Value.cells]) rfl (by decide) (by decide) ?_
  intro g3_2 w3_2 hg3_2 b3_2 h3_2
  have L6 := L5.trans h3_2
  have b3_2 : Blk w3_2 g3_2 36 (([base k]).map pv1).flatten.toArray := b3_2
  have o3_2 : OVec w3_2 w3_1.heap.size 36 pv1 1 (some ⟨g3_2, 0, none⟩) 1 1 ([base k]) := b3_2.ovec hg3_2 pv1_row rfl rfl (by decide)
  refine W.any (.assign rfl) rfl rfl rfl ?_
  refine W.nil ?_
  refine E.thenN ?_
  refine WC.seq ?_
  refine WC.region ?_
  refine W.any (.move rfl) rfl rfl rfl ?_
  refine W.ef rfl rfl rfl ?_
  refine Ef.call go8 rfl rfl (new_book w3_2 o3_2.vec (by decide) ((b_lts [k]))) ?_
  rintro _ w4_1 ⟨gp4_1, F4_1, rfl, p4_1, h4_1⟩
  refine ⟨_, rfl, ?_⟩
  have L7 := L6.trans h4_1
  refine W.any (.assign rfl) rfl rfl rfl ?_
  refine W.nil ?_
  refine E.thenN ?_
  refine WC.seq ?_
  refine WC.seq ?_
  refine WC.draw [0, 1, 2, 3, 4, 5, 6, 7, 8, 9, 10, 11, 12, 13, 14, 15, 16, 17, 18, 19, 20, 21, 22, 23, 24, 25, 26, 27, 28, 29, 30, 31, 32] mixed (by kernel_rfl) ?_
  intro w5 d5
  have L8 := L7.trans d5
  refine G.any rfl rfl (.move rfl) rfl rfl rfl ?_
  refine G.any rfl rfl (.dec (.isNilP (by kernel_rfl) rfl) rfl) rfl rfl rfl ?_
  refine G.any rfl rfl (.move rfl) rfl rfl rfl ?_
  refine G.anyg rfl rfl (.move rfl) rfl rfl rfl (rfl) rfl rfl ?_
  refine G.anyg rfl rfl (.lss rfl rfl) rfl rfl rfl (rfl) rfl rfl ?_
  refine G.any rfl rfl (.pickF rfl rfl rfl) rfl rfl rfl ?_
  by_cases q5_6 : many < 0
  · refine G.any rfl rfl (.dec (.move rfl) (decide_eq_true q5_6)) rfl rfl rfl ?_
    refine G.skip rfl rfl rfl rfl (rfl) rfl rfl ?_
    refine G.skip rfl rfl rfl rfl (rfl) rfl rfl ?_
    refine G.any rfl rfl (.pickT rfl rfl rfl) rfl rfl rfl ?_
    refine G.any rfl rfl (.move rfl) rfl rfl rfl ?_
    refine G.skip rfl rfl rfl rfl (rfl) rfl rfl ?_
    refine G.skip rfl rfl rfl rfl (rfl) rfl rfl ?_
    refine G.any rfl rfl (.pickT rfl rfl rfl) rfl rfl rfl ?_
    refine G.any rfl rfl (.move rfl) rfl rfl rfl ?_
    refine G.skip rfl rfl rfl rfl (rfl) rfl rfl ?_
    refine G.skip rfl rfl rfl rfl (rfl) rfl rfl ?_
    refine G.any rfl rfl (.pickT rfl rfl rfl) rfl rfl rfl ?_
    refine G.any rfl rfl (.move rfl) rfl rfl rfl ?_
    refine G.skip rfl rfl rfl rfl (rfl) rfl rfl ?_
    refine G.skip rfl rfl rfl rfl (rfl) rfl rfl ?_
    refine G.skip rfl rfl rfl rfl (rfl) rfl rfl ?_
    refine G.any rfl rfl (.pickT rfl rfl rfl) rfl rfl rfl ?_
    refine G.any rfl rfl (.move rfl) rfl rfl rfl ?_
    refine G.skip rfl rfl rfl rfl (rfl) rfl rfl ?_
    refine G.skip rfl rfl rfl rfl (rfl) rfl rfl ?_
    refine G.skip rfl rfl rfl rfl (rfl) rfl rfl ?_
    refine G.skip rfl rfl rfl rfl (rfl) rfl rfl ?_
    refine G.skip rfl rfl rfl rfl (rfl) rfl rfl ?_
    refine G.skip rfl rfl rfl rfl (rfl) rfl rfl ?_
    refine G.skip rfl rfl rfl rfl (rfl) rfl rfl ?_
    refine G.skip rfl rfl rfl rfl (rfl) rfl rfl ?_
    refine G.any rfl rfl (.pickT rfl rfl rfl) rfl rfl rfl ?_
    refine G.nil ?_
    refine E.thenN ?_
    refine WC.condT rfl ?_
    refine WC.seq ?_
    refine WC.region ?_
    refine W.any (.move rfl) rfl rfl rfl ?_
    refine W.any (.move rfl) rfl rfl rfl ?_
    refine W.rdg (Any.rd (.move rfl) _) rfl rfl rfl (rfl) rfl rfl ?_
    refine W.rdg (Any.rd (.dec (.notNilP (by kernel_rfl) rfl) rfl) _) rfl rfl rfl (rfl) rfl rfl ?_
    refine W.any (.pickT rfl rfl rfl) rfl rfl rfl ?_
    refine W.any (.assign rfl) rfl rfl rfl ?_
    refine W.nil ?_
    refine E.thenN ?_
    refine WC.ret ?_
    refine E.thenR ?_
    refine E.retG1 rfl rfl ?_
    exact ⟨rfl, L8⟩
  · refine G.any rfl rfl (.dec (.move rfl) (decide_eq_false q5_6)) rfl rfl rfl ?_
    refine G.anyg rfl rfl (.move rfl) rfl rfl rfl (rfl) rfl rfl ?_
    refine G.anyg rfl rfl (.gtr rfl rfl) rfl rfl rfl (rfl) rfl rfl ?_
    refine G.any rfl rfl (.pickF rfl rfl rfl) rfl rfl rfl ?_
    by_cases q5_10 : 30 < many
    · refine G.any rfl rfl (.dec (.move rfl) (decide_eq_true q5_10)) rfl rfl rfl ?_
      refine G.skip rfl rfl rfl rfl (rfl) rfl rfl ?_
      refine G.skip rfl rfl rfl rfl (rfl) rfl rfl ?_
      refine G.any rfl rfl (.pickT rfl rfl rfl) rfl rfl rfl ?_
      refine G.any rfl rfl (.move rfl) rfl rfl rfl ?_
      refine G.skip rfl rfl rfl rfl (rfl) rfl rfl ?_
      refine G.skip rfl rfl rfl rfl (rfl) rfl rfl ?_
      refine G.any rfl rfl (.pickT rfl rfl rfl) rfl rfl rfl ?_
      refine G.any rfl rfl (.move rfl) rfl rfl rfl ?_
      refine G.skip rfl rfl rfl rfl (rfl) rfl rfl ?_
      refine G.skip rfl rfl rfl rfl (rfl) rfl rfl ?_
      refine G.skip rfl rfl rfl rfl (rfl) rfl rfl ?_
      refine G.any rfl rfl (.pickT rfl rfl rfl) rfl rfl rfl ?_
      refine G.any rfl rfl (.move rfl) rfl rfl rfl ?_
      refine G.skip rfl rfl rfl rfl (rfl) rfl rfl ?_
      refine G.skip rfl rfl rfl rfl (rfl) rfl rfl ?_
      refine G.skip rfl rfl rfl rfl (rfl) rfl rfl ?_
      refine G.skip rfl rfl rfl rfl (rfl) rfl rfl ?_
      refine G.skip rfl rfl rfl rfl (rfl) rfl rfl ?_
      refine G.skip rfl rfl rfl rfl (rfl) rfl rfl ?_
      refine G.skip rfl rfl rfl rfl (rfl) rfl rfl ?_
      refine G.skip rfl rfl rfl rfl (rfl) rfl rfl ?_
      refine G.any rfl rfl (.pickT rfl rfl rfl) rfl rfl rfl ?_
      refine G.nil ?_
      refine E.thenN ?_
      refine WC.condT rfl ?_
      refine WC.seq ?_
      refine WC.region ?_
      refine W.any (.move rfl) rfl rfl rfl ?_
      refine W.any (.move rfl) rfl rfl rfl ?_
      refine W.rdg (Any.rd (.move rfl) _) rfl rfl rfl (rfl) rfl rfl ?_
      refine W.rdg (Any.rd (.dec (.notNilP (by kernel_rfl) rfl) rfl) _) rfl rfl rfl (rfl) rfl rfl ?_
      refine W.any (.pickT rfl rfl rfl) rfl rfl rfl ?_
      refine W.any (.assign rfl) rfl rfl rfl ?_
      refine W.nil ?_
      refine E.thenN ?_
      refine WC.ret ?_
      refine E.thenR ?_
      refine E.retG1 rfl rfl ?_
      exact ⟨rfl, L8⟩
    · refine G.any rfl rfl (.dec (.move rfl) (decide_eq_false q5_10)) rfl rfl rfl ?_
      refine G.anyg rfl rfl (.move rfl) rfl rfl rfl (rfl) rfl rfl ?_
      refine G.anyg rfl rfl (.lss rfl rfl) rfl rfl rfl (rfl) rfl rfl ?_
      refine G.any rfl rfl (.pickF rfl rfl rfl) rfl rfl rfl ?_
      by_cases q5_14 : h < 0
      · refine G.any rfl rfl (.dec (.move rfl) (decide_eq_true q5_14)) rfl rfl rfl ?_
        refine G.skip rfl rfl rfl rfl (rfl) rfl rfl ?_
        refine G.skip rfl rfl rfl rfl (rfl) rfl rfl ?_
        refine G.any rfl rfl (.pickT rfl rfl rfl) rfl rfl rfl ?_
        refine G.any rfl rfl (.move rfl) rfl rfl rfl ?_
        refine G.skip rfl rfl rfl rfl (rfl) rfl rfl ?_
        refine G.skip rfl rfl rfl rfl (rfl) rfl rfl ?_
        refine G.skip rfl rfl rfl rfl (rfl) rfl rfl ?_
        refine G.any rfl rfl (.pickT rfl rfl rfl) rfl rfl rfl ?_
        refine G.any rfl rfl (.move rfl) rfl rfl rfl ?_
        refine G.skip rfl rfl rfl rfl (rfl) rfl rfl ?_
        refine G.skip rfl rfl rfl rfl (rfl) rfl rfl ?_
        refine G.skip rfl rfl rfl rfl (rfl) rfl rfl ?_
        refine G.skip rfl rfl rfl rfl (rfl) rfl rfl ?_
        refine G.skip rfl rfl rfl rfl (rfl) rfl rfl ?_
        refine G.skip rfl rfl rfl rfl (rfl) rfl rfl ?_
        refine G.skip rfl rfl rfl rfl (rfl) rfl rfl ?_
        refine G.skip rfl rfl rfl rfl (rfl) rfl rfl ?_
        refine G.any rfl rfl (.pickT rfl rfl rfl) rfl rfl rfl ?_
        refine G.nil ?_
        refine E.thenN ?_
        refine WC.condT rfl ?_
        refine WC.seq ?_
        refine WC.region ?_
        refine W.any (.move rfl) rfl rfl rfl ?_
        refine W.any (.move rfl) rfl rfl rfl ?_
        refine W.rdg (Any.rd (.move rfl) _) rfl rfl rfl (rfl) rfl rfl ?_
        refine W.rdg (Any.rd (.dec (.notNilP (by kernel_rfl) rfl) rfl) _) rfl rfl rfl (rfl) rfl rfl ?_
        refine W.any (.pickT rfl rfl rfl) rfl rfl rfl ?_
        refine W.any (.assign rfl) rfl rfl rfl ?_
        refine W.nil ?_
        refine E.thenN ?_
        refine WC.ret ?_
        refine E.thenR ?_
        refine E.retG1 rfl rfl ?_
        exact ⟨rfl, L8⟩
      · refine G.any rfl rfl (.dec (.move rfl) (decide_eq_false q5_14)) rfl rfl rfl ?_
        refine G.anyg rfl rfl (.move rfl) rfl rfl rfl (rfl) rfl rfl ?_
        refine G.anyg rfl rfl (.gtr rfl rfl) rfl rfl rfl (rfl) rfl rfl ?_
        refine G.any rfl rfl (.pickF rfl rfl rfl) rfl rfl rfl ?_
        by_cases q5_18 : 1048276 < h
        · refine G.any rfl rfl (.dec (.move rfl) (decide_eq_true q5_18)) rfl rfl rfl ?_
          refine G.skip rfl rfl rfl rfl (rfl) rfl rfl ?_
          refine G.skip rfl rfl rfl rfl (rfl) rfl rfl ?_
          refine G.skip rfl rfl rfl rfl (rfl) rfl rfl ?_
          refine G.any rfl rfl (.pickT rfl rfl rfl) rfl rfl rfl ?_
          refine G.any rfl rfl (.move rfl) rfl rfl rfl ?_
          refine G.skip rfl rfl rfl rfl (rfl) rfl rfl ?_
          refine G.skip rfl rfl rfl rfl (rfl) rfl rfl ?_
          refine G.skip rfl rfl rfl rfl (rfl) rfl rfl ?_
          refine G.skip rfl rfl rfl rfl (rfl) rfl rfl ?_
          refine G.skip rfl rfl rfl rfl (rfl) rfl rfl ?_
          refine G.skip rfl rfl rfl rfl (rfl) rfl rfl ?_
          refine G.skip rfl rfl rfl rfl (rfl) rfl rfl ?_
          refine G.skip rfl rfl rfl rfl (rfl) rfl rfl ?_
          refine G.any rfl rfl (.pickT rfl rfl rfl) rfl rfl rfl ?_
          refine G.nil ?_
          refine E.thenN ?_
          refine WC.condT rfl ?_
          refine WC.seq ?_
          refine WC.region ?_
          refine W.any (.move rfl) rfl rfl rfl ?_
          refine W.any (.move rfl) rfl rfl rfl ?_
          refine W.rdg (Any.rd (.move rfl) _) rfl rfl rfl (rfl) rfl rfl ?_
          refine W.rdg (Any.rd (.dec (.notNilP (by kernel_rfl) rfl) rfl) _) rfl rfl rfl (rfl) rfl rfl ?_
          refine W.any (.pickT rfl rfl rfl) rfl rfl rfl ?_
          refine W.any (.assign rfl) rfl rfl rfl ?_
          refine W.nil ?_
          refine E.thenN ?_
          refine WC.ret ?_
          refine E.thenR ?_
          refine E.retG1 rfl rfl ?_
          exact ⟨rfl, L8⟩
        · refine G.any rfl rfl (.dec (.move rfl) (decide_eq_false q5_18)) rfl rfl rfl ?_
          have f9 := (b2_1.le (h3_1.trans (h3_2.trans (h4_1.trans d5))))
          refine G.rdg rfl rfl (.loadAll ag34 (by rfl) rfl f9) rfl rfl rfl (rfl) rfl rfl ?_
          refine G.efg rfl rfl rfl rfl rfl (rfl) rfl rfl ?_
          refine Ef.call go12 rfl rfl (aright_ok (ed0 x) w5) ?_
          rintro _ w5_20 ⟨rfl, h5_20⟩
          refine ⟨_, rfl, ?_⟩
          refine ⟨fun _ => h5_20, ?_⟩
          have L10 := L8.trans h5_20
          refine G.anyg rfl rfl (.not rfl) rfl rfl rfl (rfl) rfl rfl ?_
          refine G.any rfl rfl (.pickF rfl rfl rfl) rfl rfl rfl ?_
          by_cases q5_23 : (edgeA (ed0 x)) = true
          · refine G.any rfl rfl (.dec (.move rfl) (congrArg not (q5_23))) rfl rfl rfl ?_
            refine G.anyg rfl rfl (.move rfl) rfl rfl rfl (rfl) rfl rfl ?_
            refine G.anyg rfl rfl (.idxS (0) Try.underlying22 sz36 rfl rfl (o3_2.vec.isSome pv1_row (by omega)) (rfl) (by omega)) rfl rfl rfl (rfl) rfl rfl ?_
            have f11 := (o3_2.le (h4_1.trans (d5.trans h5_20)))
            refine G.rdg rfl rfl (.vone (v := .int .u64 ((((([base k]).getD 0 0) : Nat) : Int))) na36 rfl f11.vec pv1_row (getS ([base k]) 0 (by first | omega | (simp only [List.length_cons, List.length_nil]; omega))) rfl) rfl rfl rfl (rfl) rfl rfl ?_
            refine G.anyg rfl rfl (.move rfl) rfl rfl rfl (rfl) rfl rfl ?_
            have f12 := (f9.le h5_20)
            refine G.rdg rfl rfl (.loadAll ag34 (by rfl) rfl f12) rfl rfl rfl (rfl) rfl rfl ?_
            refine G.efg rfl rfl rfl rfl rfl (rfl) rfl rfl ?_
            refine Ef.call go15 rfl rfl (asign_ok k (ed0 x) 1 false w5_20) ?_
            rintro _ w5_29 ⟨rfl, h5_29⟩
            refine ⟨_, rfl, ?_⟩
            refine ⟨fun _ => h5_29, ?_⟩
            have L13 := L10.trans h5_29
            refine G.efg rfl rfl rfl rfl rfl (rfl) rfl rfl ?_
            refine Ef.call go13 rfl rfl (averify_ok (([base k]).getD 0 0) (signA k (ed0 x) 1 false) (b_lt k) sg_r w5_29) ?_
            rintro _ w5_30 ⟨rfl, h5_30⟩
            refine ⟨_, rfl, ?_⟩
            refine ⟨fun _ => h5_30, ?_⟩
            have L14 := L13.trans h5_30
            refine G.anyg rfl rfl (.not rfl) rfl rfl rfl (rfl) rfl rfl ?_
            refine G.any rfl rfl (.pickF rfl rfl rfl) rfl rfl rfl ?_
            refine G.nil ?_
            refine E.thenN ?_
            by_cases c0 : (verifyA (([base k]).getD 0 0) (signA k (ed0 x) 1 false)) = true
            · refine WC.condN rfl (congrArg not (c0)) ?_
              have hmy : 0 ≤ many ∧ many ≤ 30 := by omega
              have hhb : 0 ≤ h ∧ h ≤ 1048276 := by omega
              have hxe : edgeA (ed0 x) = true := by assumption
              have hkk : keyB k = true := key_of (by assumption : verifyA _ (signA k (ed0 x) 1 false) = true)
              have hfi := fun i => fl_inv hxe rfl hkk hhb i
              refine WC.skip ?_
              refine E.thenN ?_
              refine WC.seq ?_
              refine WC.seq ?_
              refine WC.region ?_
              refine W.any (.assign rfl) rfl rfl rfl ?_
              refine W.nil ?_
              refine E.thenN ?_
              refine WC.block ?_
              have f15 := (p4_1.le (d5.trans (h5_20.trans (h5_29.trans h5_30))))
              have f16 := (f12.le (h5_29.trans h5_30))
              refine WC.loop (ι := Nat × (Nat → Prop)) (fun ⟨i, F⟩ => [(0, .int .u64 (((k : Nat) : Int))), (2, .int .i64 (many)), (3, .int .i64 (h)), (5, .pointer (some ⟨g0_0, 0, none⟩)), (9, .bool true), (11, .pointer (some ⟨gp4_1, 0, none⟩)), (12, .int .i64 (((i : Nat) : Int)))]) (fun ⟨i, F⟩ wl0 => ((i : Int) ≤ many) ∧ Le w wl0 ∧ w5_30.heap.size ≤ wl0.heap.size ∧ Blk wl0 g0_0 34 (edgeV (ed0 x)).toArray ∧ BPool wl0 w3_2.heap.size gp4_1 F (fl k (ed0 x) h i)) (fun ⟨i, F⟩ => many.toNat - i) (0, F4_1) ?_ ?_ ?_
              · exact .cons rfl (.cons rfl (.cons rfl (.cons rfl (.cons rfl (.cons rfl (.cons rfl (.nil _)))))))
              · exact ⟨by omega, L14, Nat.le_refl _, f16, f15⟩
              · rintro ⟨i, F⟩ wl0 ⟨hi, Ll0, zl0, f0_0, f0_1⟩
                refine WC.seq ?_
                refine WC.seq ?_
                refine WC.region ?_
                refine W.any (.move rfl) rfl rfl rfl ?_
                refine W.any (.move rfl) rfl rfl rfl ?_
                refine W.any (.lss rfl rfl) rfl rfl rfl ?_
                refine W.nil ?_
                refine E.thenN ?_
                by_cases c1 : ((i : Nat) : Int) < many
                · refine WC.condY rfl (decide_eq_true c1) ?_
                  refine WC.skip ?_
                  refine E.thenN ?_
                  refine WC.seq ?_
                  refine WC.block ?_
                  refine WC.seq ?_
                  refine WC.region ?_
                  refine W.any (.move rfl) rfl rfl rfl ?_
                  refine W.any (.move rfl) rfl rfl rfl ?_
                  refine W.rd (.loadAll ag34 (by rfl) rfl f0_0) rfl rfl rfl ?_
                  refine W.any (.move rfl) rfl rfl rfl ?_
                  refine W.any (.add rfl rfl (by omega)) rfl rfl rfl ?_
                  refine W.any (.move rfl) rfl rfl rfl ?_
                  refine W.any (.rem rfl rfl (by omega)) rfl rfl rfl ?_
                  refine W.any (.eql rfl rfl) rfl rfl rfl ?_
                  refine W.ef rfl rfl rfl ?_
                  refine Ef.call go15 rfl rfl (asign_ok k (ed0 x) (((i : Nat) : Int) + 1) (decide ((((i : Nat) : Int) % 2) = 1)) wl0) ?_
                  rintro _ w10_8 ⟨rfl, h10_8⟩
                  refine ⟨_, rfl, ?_⟩
                  have L17 := Ll0.trans h10_8
                  refine W.any (.move rfl) rfl rfl rfl ?_
                  refine W.any (.move rfl) rfl rfl rfl ?_
                  refine W.any (.add rfl rfl (by omega)) rfl rfl rfl ?_
                  by_cases qc10_12 : i < 4
                  · have f18 := (f0_1.le h10_8)
                    refine W.ef rfl rfl rfl ?_
                    refine Ef.call go10 rfl rfl ((by have h := take_book (signA k (ed0 x) (((i : Nat) : Int) + 1) (decide ((((i : Nat) : Int) % 2) = 1))) (h + ((i : Nat) : Int)) (sg_r) f18; rw [(hfi i (by omega)).2 (by omega), if_pos qc10_12] at h; exact h)) ?_
                    rintro _ w10_12 ⟨F10_12, rfl, p10_12, g10_12, h10_12⟩
                    refine ⟨_, rfl, ?_⟩
                    have L19 := L17.chP_then h10_12 (fun i hi => Nat.le_trans L6.size (f18.old hi))
                    have f20 := (f0_0.le h10_8)
                    have zq21n := (show ¬ F g0_0 from (fun hF => by have := f18.old hF; have := b2_1.lt; have := h3_1.size; have := h3_2.size; omega))
                    have zq21 := f20.chP h10_12 zq21n
                    have zq21g : ¬ F10_12 g0_0 := fun hF => (g10_12 _ hF).elim zq21n (fun hz => by have := f20.lt; omega)
                    refine W.any (.assign rfl) rfl rfl rfl ?_
                    refine W.nil ?_
                    refine E.thenN ?_
                    refine WC.seq ?_
                    refine WC.region ?_
                    refine W.any (.move rfl) rfl rfl rfl ?_
                    refine W.any (.dec (.lss rfl rfl) (decide_eq_true (by omega))) rfl rfl rfl ?_
                    refine W.any (.move rfl) rfl rfl rfl ?_
                    refine W.rdg (Any.rd (.move rfl) _) rfl rfl rfl (rfl) rfl rfl ?_
                    refine W.rdg (Any.rd (.dec (.neq rfl rfl) (show _ = false from by first | decide | rfl)) _) rfl rfl rfl (rfl) rfl rfl ?_
                    refine W.any (.pickT rfl rfl rfl) rfl rfl rfl ?_
                    refine W.any (.move rfl) rfl rfl rfl ?_
                    refine W.rdg (Any.rd (.move rfl) _) rfl rfl rfl (rfl) rfl rfl ?_
                    refine W.rdg (Any.rd (.dec (.geq rfl rfl) (decide_eq_false (by omega))) _) rfl rfl rfl (rfl) rfl rfl ?_
                    refine W.rdg (Any.rd (.move rfl) _) rfl rfl rfl (rfl) rfl rfl ?_
                    refine W.skip rfl rfl rfl (rfl) rfl rfl ?_
                    refine W.skip rfl rfl rfl (rfl) rfl rfl ?_
                    refine W.rdg (Any.rd (.pickF rfl rfl rfl) _) rfl rfl rfl (rfl) rfl rfl ?_
                    refine W.any (.pickF rfl rfl rfl) rfl rfl rfl ?_
                    refine W.nil ?_
                    refine E.thenN ?_
                    refine WC.condF rfl ?_
                    refine WC.skip ?_
                    refine E.blkN ?_
                    refine E.thenN ?_
                    refine WC.region ?_
                    refine W.any (.move rfl) rfl rfl rfl ?_
                    refine W.any (.add rfl rfl (by omega)) rfl rfl rfl ?_
                    refine W.any (.assign rfl) rfl rfl rfl ?_
                    refine W.nil ?_
                    refine E.again (i + 1, F10_12) (.cons rfl (.cons rfl (.cons rfl (.cons rfl (.cons rfl (.cons rfl (.cons rfl (.nil _)))))))) ?_ ?_
                    · exact ⟨by omega, L19, by have := zl0; have := h10_8.size; have := h10_12.size; omega, zq21, p10_12⟩
                    · first | omega | (simp only []; omega)
                  · have f22 := (f0_1.le h10_8)
                    refine W.ef rfl rfl rfl ?_
                    refine Ef.call go10 rfl rfl ((by have h := take_book (signA k (ed0 x) (((i : Nat) : Int) + 1) (decide ((((i : Nat) : Int) % 2) = 1))) (h + ((i : Nat) : Int)) (sg_r) f22; rw [(hfi i (by omega)).2 (by omega), if_neg qc10_12] at h; exact h)) ?_
                    rintro _ w10_12_1 ⟨F10_12_1, rfl, p10_12_1, g10_12_1, h10_12_1⟩
                    refine ⟨_, rfl, ?_⟩
                    have L23 := L17.chP_then h10_12_1 (fun i hi => Nat.le_trans L6.size (f22.old hi))
                    have f24 := (f0_0.le h10_8)
                    have zq25n := (show ¬ F g0_0 from (fun hF => by have := f22.old hF; have := b2_1.lt; have := h3_1.size; have := h3_2.size; omega))
                    have zq25 := f24.chP h10_12_1 zq25n
                    have zq25g : ¬ F10_12_1 g0_0 := fun hF => (g10_12_1 _ hF).elim zq25n (fun hz => by have := f24.lt; omega)
                    refine W.any (.assign rfl) rfl rfl rfl ?_
                    refine W.nil ?_
                    refine E.thenN ?_
                    refine WC.seq ?_
                    refine WC.region ?_
                    refine W.any (.move rfl) rfl rfl rfl ?_
                    refine W.any (.dec (.lss rfl rfl) (decide_eq_false (by omega))) rfl rfl rfl ?_
                    refine W.any (.move rfl) rfl rfl rfl ?_
                    refine W.skip rfl rfl rfl (rfl) rfl rfl ?_
                    refine W.skip rfl rfl rfl (rfl) rfl rfl ?_
                    refine W.any (.pickF rfl rfl rfl) rfl rfl rfl ?_
                    refine W.any (.move rfl) rfl rfl rfl ?_
                    refine W.rdg (Any.rd (.move rfl) _) rfl rfl rfl (rfl) rfl rfl ?_
                    refine W.rdg (Any.rd (.dec (.geq rfl rfl) (decide_eq_true (by omega))) _) rfl rfl rfl (rfl) rfl rfl ?_
                    refine W.rdg (Any.rd (.move rfl) _) rfl rfl rfl (rfl) rfl rfl ?_
                    refine W.rdg (Any.rd (.move rfl) _) rfl rfl rfl (rfl) rfl rfl ?_
                    refine W.rdg (Any.rd (.dec (.neq rfl rfl) (show _ = false from by first | decide | rfl)) _) rfl rfl rfl (rfl) rfl rfl ?_
                    refine W.rdg (Any.rd (.pickT rfl rfl rfl) _) rfl rfl rfl (rfl) rfl rfl ?_
                    refine W.any (.pickF rfl rfl rfl) rfl rfl rfl ?_
                    refine W.nil ?_
                    refine E.thenN ?_
                    refine WC.condF rfl ?_
                    refine WC.skip ?_
                    refine E.blkN ?_
                    refine E.thenN ?_
                    refine WC.region ?_
                    refine W.any (.move rfl) rfl rfl rfl ?_
                    refine W.any (.add rfl rfl (by omega)) rfl rfl rfl ?_
                    refine W.any (.assign rfl) rfl rfl rfl ?_
                    refine W.nil ?_
                    refine E.again (i + 1, F10_12_1) (.cons rfl (.cons rfl (.cons rfl (.cons rfl (.cons rfl (.cons rfl (.cons rfl (.nil _)))))))) ?_ ?_
                    · exact ⟨by omega, L23, by have := zl0; have := h10_8.size; have := h10_12_1.size; omega, zq25, p10_12_1⟩
                    · first | omega | (simp only []; omega)
                · refine WC.condN rfl (decide_eq_false c1) ?_
                  have hie : (i : Int) = many := by omega
                  have hfl := fl_last hxe rfl hkk hhb (m := i) (by omega)
                  have h15 : (((fl k (ed0 x) h i).nw (Bsp.Sd.mk (ed0 x).c 0)).isSome == decide (0 < many)) = true := by rw [show ((fl k (ed0 x) h i).nw (Bsp.Sd.mk (ed0 x).c 0)).isSome = _ from hfl.1, ← hie]; simp
                  refine WC.exit ?_
                  refine E.thenX ?_
                  refine E.thenX ?_
                  refine E.blkH ?_
                  refine E.thenN ?_
                  refine WC.seq ?_
                  refine WC.region ?_
                  refine W.any (.move rfl) rfl rfl rfl ?_
                  refine W.any (.field0 fa34_2 rfl) rfl rfl rfl ?_
                  refine W.rd (.loadB (v := .int .i64 ((ed0 x).c)) na3 rfl f0_0 rfl) rfl rfl rfl ?_
                  refine W.ef rfl rfl rfl ?_
                  refine Ef.call go16 rfl rfl (get_book ((ed0 x).c) 0 f0_1) ?_
                  rintro _ w13_3 ⟨rfl, h13_3⟩
                  refine ⟨_, rfl, ?_⟩
                  have L26 := Ll0.trans h13_3
                  refine W.any (.move rfl) rfl rfl rfl ?_
                  refine W.any (.extract (v := .agg (adV (((fl k (ed0 x) h i).nw (Bsp.Sd.mk ((ed0 x).c) 0)).getD noAd)).toArray) rfl rfl) rfl rfl rfl ?_
                  refine W.any (.extract (v := .bool (((fl k (ed0 x) h i).nw (Bsp.Sd.mk ((ed0 x).c) 0)).isSome)) rfl rfl) rfl rfl rfl ?_
                  refine W.ef rfl rfl rfl ?_
                  refine Ef.allocA z41 ?_
                  intro g13_7 w13_7 hg13_7 b13_7 h13_7
                  have L27 := L26.trans h13_7
                  have b13_7 : Blk w13_7 g13_7 41 (adV noAd).toArray := b13_7
                  refine W.ef0 rfl rfl ?_
                  refine Ef.storeAll sz41 (by rfl) rfl rfl b13_7 (by simp only [List.size_toArray, adV_row.len]) (adV_row.one (((fl k (ed0 x) h i).nw (Bsp.Sd.mk ((ed0 x).c) 0)).getD noAd)) ?_
                  intro w13_8 b13_8 h13_8
                  have b13_8 : Blk w13_8 g13_7 41 (adV (((fl k (ed0 x) h i).nw (Bsp.Sd.mk ((ed0 x).c) 0)).getD noAd)).toArray := b13_8
                  have L28 : Le w w13_8 := L27.then_ h13_8 (fun q hq => by cases hq; exact Nat.le_trans L26.size hg13_7)
                  refine W.any (.assign rfl) rfl rfl rfl ?_
                  refine W.nil ?_
                  refine E.thenN ?_
                  refine WC.seq ?_
                  refine WC.region ?_
                  refine W.any (.move rfl) rfl rfl rfl ?_
                  refine W.any (.move rfl) rfl rfl rfl ?_
                  have f29 := ((f0_0.le (h13_3.trans h13_7)).ch h13_8 (fun h => (show g13_7 ≠ g0_0 from by have := f0_0.lt; have := h13_3.size; omega) (Option.some.inj h)))
                  refine W.rd (.loadAll ag34 (by rfl) rfl f29) rfl rfl rfl ?_
                  refine W.ef rfl rfl rfl ?_
                  refine Ef.call go15 rfl rfl (asign_ok k (ed0 x) 99 false w13_8) ?_
                  rintro _ w14_3 ⟨rfl, h14_3⟩
                  refine ⟨_, rfl, ?_⟩
                  have L30 := L28.trans h14_3
                  refine W.any (.move rfl) rfl rfl rfl ?_
                  refine W.any (.add rfl rfl (by omega)) rfl rfl rfl ?_
                  have f31 := (((f0_1.le (h13_3.trans h13_7)).ch h13_8 (fun q hqq hF => by cases hqq; have := f0_1.lt hF; have := h13_3.size; have := hg13_7; omega)).le h14_3)
                  refine W.ef rfl rfl rfl ?_
                  refine Ef.call go10 rfl rfl ((by have h := take_book (signA k (ed0 x) 99 false) (h + 100) (sg_r) f31; rw [hfl.2.2] at h; exact h)) ?_
                  rintro _ w14_6 ⟨F14_6, rfl, p14_6, g14_6, h14_6⟩
                  refine ⟨_, rfl, ?_⟩
                  have L32 := L30.chP_then h14_6 (fun i hi => Nat.le_trans L6.size (f31.old hi))
                  have f33 := (f29.le h14_3)
                  have f34 := (b13_8.le h14_3)
                  have zq35n := (show ¬ F g0_0 from (fun hF => by have := f31.old hF; have := b2_1.lt; have := h3_1.size; have := h3_2.size; omega))
                  have zq35 := f33.chP h14_6 zq35n
                  have zq35g : ¬ F14_6 g0_0 := fun hF => (g14_6 _ hF).elim zq35n (fun hz => by have := f33.lt; omega)
                  have zq36n := (show ¬ F g13_7 from (fun hF => by have := f0_1.lt hF; have := h13_3.size; have := hg13_7; omega))
                  have zq36 := f34.chP h14_6 zq36n
                  have zq36g : ¬ F14_6 g13_7 := fun hF => (g14_6 _ hF).elim zq36n (fun hz => by have := f34.lt; omega)
                  refine W.any (.assign rfl) rfl rfl rfl ?_
                  refine W.nil ?_
                  refine E.thenN ?_
                  refine WC.seq ?_
                  refine WC.region ?_
                  refine W.any (.move rfl) rfl rfl rfl ?_
                  refine W.any (.move rfl) rfl rfl rfl ?_
                  refine W.rdg (Any.rd (.move rfl) _) rfl rfl rfl (rfl) rfl rfl ?_
                  refine W.rdg (Any.rd (.move rfl) _) rfl rfl rfl (rfl) rfl rfl ?_
                  refine W.rdg (Any.rd (.gtr rfl rfl) _) rfl rfl rfl (rfl) rfl rfl ?_
                  refine W.rdg (Any.rd (.beql Try.underlying4 rfl rfl) _) rfl rfl rfl (rfl) rfl rfl ?_
                  refine W.any (.pickT rfl rfl rfl) rfl rfl rfl ?_
                  refine W.any (.dec (.move rfl) (h15)) rfl rfl rfl ?_
                  refine W.rdg (Any.rd (.field0 fa41_1 rfl) _) rfl rfl rfl (rfl) rfl rfl ?_
                  refine W.rdg (.loadB (v := .int .i64 ((((fl k (ed0 x) h i).nw (Bsp.Sd.mk ((ed0 x).c) 0)).getD noAd).no)) na3 rfl zq36 rfl) rfl rfl rfl (rfl) rfl rfl ?_
                  refine W.rdg (Any.rd (.move rfl) _) rfl rfl rfl (rfl) rfl rfl ?_
                  refine W.rdg (.min2 rfl rfl) rfl rfl rfl (rfl) rfl rfl ?_
                  refine W.rdg (Any.rd (.eql rfl rfl) _) rfl rfl rfl (rfl) rfl rfl ?_
                  refine W.any (.pickT rfl rfl rfl) rfl rfl rfl ?_
                  refine W.any (.dec (.move rfl) (decide_eq_true (by rw [hfl.2.1]; omega))) rfl rfl rfl ?_
                  refine W.rdg (Any.rd (.move rfl) _) rfl rfl rfl (rfl) rfl rfl ?_
                  refine W.rdg (Any.rd (.dec (.eql rfl rfl) (show _ = true from by first | decide | rfl)) _) rfl rfl rfl (rfl) rfl rfl ?_
                  refine W.any (.pickT rfl rfl rfl) rfl rfl rfl ?_
                  refine W.any (.assign rfl) rfl rfl rfl ?_
                  refine W.nil ?_
                  refine E.thenN ?_
                  refine WC.ret ?_
                  refine E.retG1 rfl rfl ?_
                  exact ⟨rfl, L32⟩
            · refine WC.condY rfl (congrArg not ((Bool.eq_false_iff.2 c0))) ?_
              refine WC.seq ?_
              refine WC.region ?_
              refine W.any (.move rfl) rfl rfl rfl ?_
              refine W.any (.move rfl) rfl rfl rfl ?_
              refine W.rdg (Any.rd (.move rfl) _) rfl rfl rfl (rfl) rfl rfl ?_
              refine W.rdg (Any.rd (.dec (.notNilP (by kernel_rfl) rfl) rfl) _) rfl rfl rfl (rfl) rfl rfl ?_
              refine W.any (.pickT rfl rfl rfl) rfl rfl rfl ?_
              refine W.any (.assign rfl) rfl rfl rfl ?_
              refine W.nil ?_
              refine E.thenN ?_
              refine WC.ret ?_
              refine E.thenR ?_
              refine E.retG1 rfl rfl ?_
              exact ⟨rfl, L14⟩
          · refine G.any rfl rfl (.dec (.move rfl) (congrArg not ((Bool.eq_false_iff.2 q5_23)))) rfl rfl rfl ?_
            refine G.skip rfl rfl rfl rfl (rfl) rfl rfl ?_
            refine G.skip rfl rfl rfl rfl (rfl) rfl rfl ?_
            refine G.skip rfl rfl rfl rfl (rfl) rfl rfl ?_
            refine G.skip rfl rfl rfl rfl (rfl) rfl rfl ?_
            refine G.skip rfl rfl rfl rfl (rfl) rfl rfl ?_
            refine G.skip rfl rfl rfl rfl (rfl) rfl rfl ?_
            refine G.skip rfl rfl rfl rfl (rfl) rfl rfl ?_
            refine G.skip rfl rfl rfl rfl (rfl) rfl rfl ?_
            refine G.any rfl rfl (.pickT rfl rfl rfl) rfl rfl rfl ?_
            refine G.nil ?_
            refine E.thenN ?_
            refine WC.condT rfl ?_
            refine WC.seq ?_
            refine WC.region ?_
            refine W.any (.move rfl) rfl rfl rfl ?_
            refine W.any (.move rfl) rfl rfl rfl ?_
            refine W.rdg (Any.rd (.move rfl) _) rfl rfl rfl (rfl) rfl rfl ?_
            refine W.rdg (Any.rd (.dec (.notNilP (by kernel_rfl) rfl) rfl) _) rfl rfl rfl (rfl) rfl rfl ?_
            refine W.any (.pickT rfl rfl rfl) rfl rfl rfl ?_
            refine W.any (.assign rfl) rfl rfl rfl ?_
            refine W.nil ?_
            refine E.thenN ?_
            refine WC.ret ?_
            refine E.thenR ?_
            refine E.retG1 rfl rfl ?_
            exact ⟨rfl, L10⟩
end Go.Proofs.Ytbpfhenbcgjpcaa

namespace Go.Sx
open Go Go.ChangeShapes Go.WideShapes Go.Deep
set_option linter.unusedVariables false
variable {H : Type} {enc : TypeId × Value → H} {P : Program} {w : World} {base : Nat} {spare : Nat → Bool} {held : Bool}
theorem open_u64 {t : TypeId} {r : Reach} {b0 : Nat} {v : Value} {d : DataW H} {ps : List MemPlace} (ht : P.underlying t = some (.int .u64)) (hval : Value.okWide P w r b0 t v) (hd : DataW.Trod enc P w base spare held t v d ps) : ∃ q : Nat, v = .int .u64 ((q : Nat) : Int) ∧ q < 18446744073709551616 := by
  obtain ⟨a, rfl, rfl, rfl, s⟩ := open_int ht hval hd
  have := bounds_u64 s
  exact ⟨a.toNat, by rw [show ((a.toNat : Nat) : Int) = a by omega], by omega⟩
end Go.Sx

namespace Go.Sx
open Go Go.ChangeShapes Go.WideShapes Go.Deep
set_option linter.unusedVariables false
set_option linter.unusedSimpArgs false
variable {H : Type} {enc : TypeId × Value → H} {P : Program} {w : World} {base : Nat} {spare : Nat → Bool} {held : Bool}
def I64b (n : Int) : Prop := -9223372036854775808 ≤ n ∧ n ≤ 9223372036854775807
theorem cut1 {α : Type} (cs : List α) (o s : Nat) : cs.drop o = (cs.drop o).take s ++ cs.drop (o + s) := by
  rw [← List.drop_drop]
  exact (List.take_append_drop s (cs.drop o)).symm
theorem cut0 {α : Type} (cs : List α) : cs = cs.drop 0 := rfl
theorem cutN {α : Type} {cs : List α} {n : Nat} (h : cs.length = n) : cs.drop n = [] := List.drop_eq_nil_of_le (by omega)
theorem trod_fields {t : TypeId} {fs : Array Field} {fuel : Nat} {cs : List Value} {x : DataW H × List MemPlace} (ht : P.underlying t = some (.struct fs)) (h : DataW.trod enc P w base spare held fuel t cs = some x) :
    cs.length = P.cellsOf t ∧ ∃ m, ∀ (i : Nat) (f : Field), fs[i]? = some f → ∃ y, DataW.trod enc P w base spare held m f.type ((cs.drop f.offset).take (P.cellsOf f.type)) = some y := by
  obtain ⟨xs, m, _, _, hl, hxl, hi⟩ := DataW.trod_struct ht h
  refine ⟨hl, m, fun i f hf => ?_⟩
  have hlt : i < xs.length := by rw [hxl]; exact (Array.getElem?_eq_some_iff.1 hf).1
  exact ⟨_, (hi i f hf).trans (List.getElem?_eq_getElem hlt)⟩
theorem read_i64 {e : TypeId} (he : P.underlying e = some (.int .i64)) : ∀ fuel cs x, DataW.trod enc P w base spare held fuel e cs = some x → ∃ q : Int, cs = [.int .i64 q] ∧ I64b q := by
  intro fuel cs x h
  obtain ⟨n, rfl, _, hw⟩ := DataW.trod_int he h
  exact ⟨n, rfl, bounds_i64 hw⟩
theorem okWide_structG {t : TypeId} {fs : Array Field} {r : Reach} {b0 : Nat} {v : Value} (ht : P.underlying t = some (.struct fs)) (h : Value.okWide P w r b0 t v) : ∃ cs : Array Value, v = .agg cs := by
  simp only [Value.okWide, ht] at h
  obtain ⟨cs, h1, _⟩ := h
  exact ⟨cs, h1⟩
/-- A struct that is an argument itself. -/
theorem open_struct {α : Type} {f : α → List Value} {good : α → Prop} {t : TypeId} {fs : Array Field} {r : Reach} {b0 : Nat} {v : Value} {d : DataW H} {ps : List MemPlace} (ht : P.underlying t = some (.struct fs)) (hp : ∀ fuel cs x, DataW.trod enc P w base spare held fuel t cs = some x → ∃ q, cs = f q ∧ good q)
    (hval : Value.okWide P w r b0 t v) (hd : DataW.Trod enc P w base spare held t v d ps) : ∃ q : α, v = .agg (f q).toArray ∧ good q := by
  obtain ⟨cs, rfl⟩ := okWide_structG ht hval
  obtain ⟨fuel, h⟩ := hd
  obtain ⟨q, e, hg⟩ := hp _ _ _ h
  refine ⟨q, ?_, hg⟩
  congr 1
  apply Array.ext'
  exact e
end Go.Sx

namespace Go.Proofs.Ytbpfhenbcgjpcaa
open Go Go.Sx Go.Osp Go.Gsp Go.Asp Go.ChangeShapes Go.WideShapes Go.Deep
set_option linter.unusedVariables false
set_option linter.unusedSimpArgs false
set_option maxRecDepth 20000
variable {H : Type} {enc : TypeId × Value → H} {w : World} {base : Nat} {spare : Nat → Bool} {held : Bool}
abbrev GPol := Pol
abbrev GEdge := Gsp.Edge
abbrev GSig := Asp.Sig
abbrev GAd := Asp.Ad
abbrev GTold := Bsp.Told
def goodGPol (q : GPol) : Prop := I64b q.b ∧ I64b q.p ∧ I64b q.d ∧ I64b q.l ∧ I64b q.m
instance : Inhabited GPol := ⟨noPol⟩
theorem read_GPol : ∀ fuel cs x, DataW.trod enc Try.prog w base spare held fuel 32 cs = some x → ∃ q : GPol, cs = polV q ∧ goodGPol q := by
  intro fuel cs x h
  obtain ⟨hl, m, hi⟩ := trod_fields Try.underlying32 h
  rw [show Try.prog.cellsOf 32 = 5 by kernel_rfl] at hl
  obtain ⟨y0, k0⟩ := hi 0 _ rfl
  have k0 : DataW.trod enc Try.prog w base spare held m 3 ((cs.drop 0).take (Try.prog.cellsOf 3)) = some y0 := k0
  rw [show Try.prog.cellsOf 3 = 1 by kernel_rfl] at k0
  obtain ⟨q0, e0, g0⟩ := read_i64 Try.underlying3 _ _ _ k0
  obtain ⟨y1, k1⟩ := hi 1 _ rfl
  have k1 : DataW.trod enc Try.prog w base spare held m 3 ((cs.drop 1).take (Try.prog.cellsOf 3)) = some y1 := k1
  rw [show Try.prog.cellsOf 3 = 1 by kernel_rfl] at k1
  obtain ⟨q1, e1, g1⟩ := read_i64 Try.underlying3 _ _ _ k1
  obtain ⟨y2, k2⟩ := hi 2 _ rfl
  have k2 : DataW.trod enc Try.prog w base spare held m 3 ((cs.drop 2).take (Try.prog.cellsOf 3)) = some y2 := k2
  rw [show Try.prog.cellsOf 3 = 1 by kernel_rfl] at k2
  obtain ⟨q2, e2, g2⟩ := read_i64 Try.underlying3 _ _ _ k2
  obtain ⟨y3, k3⟩ := hi 3 _ rfl
  have k3 : DataW.trod enc Try.prog w base spare held m 3 ((cs.drop 3).take (Try.prog.cellsOf 3)) = some y3 := k3
  rw [show Try.prog.cellsOf 3 = 1 by kernel_rfl] at k3
  obtain ⟨q3, e3, g3⟩ := read_i64 Try.underlying3 _ _ _ k3
  obtain ⟨y4, k4⟩ := hi 4 _ rfl
  have k4 : DataW.trod enc Try.prog w base spare held m 3 ((cs.drop 4).take (Try.prog.cellsOf 3)) = some y4 := k4
  rw [show Try.prog.cellsOf 3 = 1 by kernel_rfl] at k4
  obtain ⟨q4, e4, g4⟩ := read_i64 Try.underlying3 _ _ _ k4
  have e := (cut0 cs).trans ((cut1 cs 0 1).trans (congrArg (List.take 1 (cs.drop 0) ++ ·) ((cut1 cs 1 1).trans (congrArg (List.take 1 (cs.drop 1) ++ ·) ((cut1 cs 2 1).trans (congrArg (List.take 1 (cs.drop 2) ++ ·) ((cut1 cs 3 1).trans (congrArg (List.take 1 (cs.drop 3) ++ ·) ((cut1 cs 4 1).trans (congrArg (List.take 1 (cs.drop 4) ++ ·) (cutN hl)))))))))))
  simp only [e0, e1, e2, e3, e4] at e
  exact ⟨⟨q0, q1, q2, q3, q4⟩, e, g0, g1, g2, g3, g4⟩
def goodGEdge (q : GEdge) : Prop := I64b q.f ∧ I64b q.t ∧ I64b q.c ∧ I64b q.r ∧ goodGPol q.pol
instance : Inhabited GEdge := ⟨noEdge⟩
theorem read_GEdge : ∀ fuel cs x, DataW.trod enc Try.prog w base spare held fuel 34 cs = some x → ∃ q : GEdge, cs = edgeV q ∧ goodGEdge q := by
  intro fuel cs x h
  obtain ⟨hl, m, hi⟩ := trod_fields Try.underlying34 h
  rw [show Try.prog.cellsOf 34 = 9 by kernel_rfl] at hl
  obtain ⟨y0, k0⟩ := hi 0 _ rfl
  have k0 : DataW.trod enc Try.prog w base spare held m 3 ((cs.drop 0).take (Try.prog.cellsOf 3)) = some y0 := k0
  rw [show Try.prog.cellsOf 3 = 1 by kernel_rfl] at k0
  obtain ⟨q0, e0, g0⟩ := read_i64 Try.underlying3 _ _ _ k0
  obtain ⟨y1, k1⟩ := hi 1 _ rfl
  have k1 : DataW.trod enc Try.prog w base spare held m 3 ((cs.drop 1).take (Try.prog.cellsOf 3)) = some y1 := k1
  rw [show Try.prog.cellsOf 3 = 1 by kernel_rfl] at k1
  obtain ⟨q1, e1, g1⟩ := read_i64 Try.underlying3 _ _ _ k1
  obtain ⟨y2, k2⟩ := hi 2 _ rfl
  have k2 : DataW.trod enc Try.prog w base spare held m 3 ((cs.drop 2).take (Try.prog.cellsOf 3)) = some y2 := k2
  rw [show Try.prog.cellsOf 3 = 1 by kernel_rfl] at k2
  obtain ⟨q2, e2, g2⟩ := read_i64 Try.underlying3 _ _ _ k2
  obtain ⟨y3, k3⟩ := hi 3 _ rfl
  have k3 : DataW.trod enc Try.prog w base spare held m 3 ((cs.drop 3).take (Try.prog.cellsOf 3)) = some y3 := k3
  rw [show Try.prog.cellsOf 3 = 1 by kernel_rfl] at k3
  obtain ⟨q3, e3, g3⟩ := read_i64 Try.underlying3 _ _ _ k3
  obtain ⟨y4, k4⟩ := hi 4 _ rfl
  have k4 : DataW.trod enc Try.prog w base spare held m 32 ((cs.drop 4).take (Try.prog.cellsOf 32)) = some y4 := k4
  rw [show Try.prog.cellsOf 32 = 5 by kernel_rfl] at k4
  obtain ⟨q4, e4, g4⟩ := read_GPol _ _ _ k4
  have e := (cut0 cs).trans ((cut1 cs 0 1).trans (congrArg (List.take 1 (cs.drop 0) ++ ·) ((cut1 cs 1 1).trans (congrArg (List.take 1 (cs.drop 1) ++ ·) ((cut1 cs 2 1).trans (congrArg (List.take 1 (cs.drop 2) ++ ·) ((cut1 cs 3 1).trans (congrArg (List.take 1 (cs.drop 3) ++ ·) ((cut1 cs 4 5).trans (congrArg (List.take 5 (cs.drop 4) ++ ·) (cutN hl)))))))))))
  simp only [e0, e1, e2, e3, e4] at e
  exact ⟨⟨q0, q1, q2, q3, q4⟩, e, g0, g1, g2, g3, g4⟩
instance : Inhabited GSig := ⟨noSig⟩
instance : Inhabited GAd := ⟨noAd⟩
theorem open_gedge {r : Reach} {b0 : Nat} {v : Value} {d : DataW H} {ps : List MemPlace} (hval : Value.okWide Try.prog w r b0 34 v) (hd : DataW.Trod enc Try.prog w base spare held 34 v d ps) : ∃ q : GEdge, v = .agg (edgeV q).toArray ∧ goodGEdge q := open_struct Try.underlying34 read_GEdge hval hd
instance : Inhabited GTold := ⟨Bsp.noTold⟩
end Go.Proofs.Ytbpfhenbcgjpcaa

