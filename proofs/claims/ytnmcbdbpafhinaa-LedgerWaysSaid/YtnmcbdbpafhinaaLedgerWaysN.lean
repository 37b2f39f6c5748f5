/- LedgerWays: for every input the law answers true and leaves its arguments as they were. -/
import Derived.Test.YtnmcbdbpafhinaaLedgerWaysM
import Derived.OrdersHeld
import Derived.WalkKit
import Derived.Deep.AppendSrc
import Derived.Deep.MidRow
import Derived.Laws.OwnMore
import Derived.WalkSpells
import Derived.Lib.ConvBytes
import Derived.Lib.AppendZerosOnto
import Derived.Laws.StructEq
import Derived.Maps.RangeRun
import Derived.Laws.Pointers
import Derived.Test.YtnmcbdbpafhinaaProg
import Derived.KernelRfl
import Derived.Lib.Mul64
import Derived.Shelf.SlIterI.Nil
import Derived.Shelf.SortM.Plain
import Derived.Shelf.SortM.SortNone
import Derived.Ground.GgzProg
import Derived.Ground.SlgmProg
namespace Go.Proofs.Ytnmcbdbpafhinaa
open Go Go.Sx Go.Num Go.Gsp Go.Lsp
set_option maxRecDepth 20000
set_option linter.unusedSimpArgs false
set_option linter.unusedVariables false
theorem eqv_pairV {d : Nat} (a b : Pair) : Eqv Try.prog (d + 2) 31 (.agg (pairV a).toArray) (.agg (pairV b).toArray) (decide (a = b)) := by
  have h := Eqv.arr (P := Try.prog) (d := d + 1) (xs := (pairV a).toArray) (ys := (pairV b).toArray) (fun i => decide (a.ix i = b.ix i)) (fun i => .int .i64 (a.ix i)) (fun i => .int .i64 (b.ix i)) Try.underlying31 sz3 (fun i hi w => run_part1 na3 (by rw [Nat.mul_one]; exact pair_ix a hi) w) (fun i hi w => run_part1 na3 (by rw [Nat.mul_one]; exact pair_ix b hi) w) (fun i hi => Eqv.int (P := Try.prog) _ _ Try.underlying3)
  have e : ((List.range 2).all fun i => decide (a.ix i = b.ix i)) = decide (a = b) := by
    obtain ⟨a1, a2⟩ := a
    obtain ⟨b1, b2⟩ := b
    rw [Bool.eq_iff_iff]
    simp [List.range_succ, Pair.ix]
  rw [e] at h
  exact h
namespace S46
def s0 : Led := ⟨[100, 100, 50], [], 0, [], 0, 0⟩
def s1 : Led := (openL s0 (⟨3, 0, 1, 60, 0⟩ : Seat) 5).1
theorem e1 : openL s0 (⟨3, 0, 1, 60, 0⟩ : Seat) 5 = (s1, 0) := by decide +kernel
theorem e2 : openL s1 (⟨3, 1, 2, 0, 0⟩ : Seat) 0 = (s1, 4) := by decide +kernel
theorem e3 : openL s1 (⟨4, 0, 1, 36, 0⟩ : Seat) 0 = (s1, 8) := by decide +kernel
theorem e4 : ownL s1.own 0 = 35 := by decide +kernel
theorem e5 : worthL s1.own s1.ls s1.lh 0 = 95 := by decide +kernel
def s6 : Led := (offerL s1 3 0 1 40 16).1
theorem e6 : offerL s1 3 0 1 40 16 = (s6, 0) := by decide +kernel
theorem e7 : heldL s6.lh 3 0 = 40 := by decide +kernel
theorem e8 : worthL s6.own s6.ls s6.lh 0 = 95 := by decide +kernel
theorem e9 : closeL s6 3 (⟨0, 0⟩ : Pair) = (s6, 14) := by decide +kernel
theorem e10 : settleL s6 3 0 1 3 = (s6, 23) := by decide +kernel
def s11 : Led := (settleL s6 3 0 1 2).1
theorem e11 : settleL s6 3 0 1 2 = (s11, 0) := by decide +kernel
theorem e12 : worthL s11.own s11.ls s11.lh 1 = 140 := by decide +kernel
theorem e13 : failL s11 3 0 1 = (s11, 5) := by decide +kernel
def s14 : Led := (openL s11 (⟨7, 1, 2, 30, 10⟩ : Seat) 0).1
theorem e14 : openL s11 (⟨7, 1, 2, 30, 10⟩ : Seat) 0 = (s14, 0) := by decide +kernel
def s15 : Led := (payL s14 [(⟨3, 0, 12⟩ : Leg), (⟨7, 0, 11⟩ : Leg)]).1
theorem e15 : payL s14 [(⟨3, 0, 12⟩ : Leg), (⟨7, 0, 11⟩ : Leg)] = (s15, 0) := by decide +kernel
theorem e16 : worthL s15.own s15.ls s15.lh 2 = 61 := by decide +kernel
theorem e17 : payL s15 [(⟨3, 0, 1⟩ : Leg), (⟨7, 0, 99⟩ : Leg)] = (s15, 8) := by decide +kernel
theorem e18 : worthL s15.own s15.ls s15.lh 0 = 43 := by decide +kernel
def s19 : Led := (cutL s15 [3, 7] [(⟨3, 0, 2, 8, 21⟩ : Seat), (⟨9, 1, 0, 70, 0⟩ : Seat)] [0, 1, 0]).1
theorem e19 : cutL s15 [3, 7] [(⟨3, 0, 2, 8, 21⟩ : Seat), (⟨9, 1, 0, 70, 0⟩ : Seat)] [0, 1, 0] = (s19, 0) := by decide +kernel
def s20 : Led := (spliceL s19 9 (⟨(-20), 30⟩ : Pair) (⟨2, 0⟩ : Pair)).1
theorem e20 : spliceL s19 9 (⟨(-20), 30⟩ : Pair) (⟨2, 0⟩ : Pair) = (s20, 0) := by decide +kernel
theorem e21 : ownL s20.own 1 = 88 := by decide +kernel
theorem e22 : ownL s20.own 0 = 5 := by decide +kernel
theorem f1 : seatAt' s20.ls 9 = ⟨9, 1, 0, 50, 30⟩ := by decide +kernel
theorem f2 : (getG 9 s20.ls).isSome = true := by decide +kernel
theorem f3 : (seatsL s20.ls).length = 2 := by decide +kernel
theorem f4 : s20.all - s20.lost = 242 := by decide +kernel
theorem f5 : s20.lost = 8 := by decide +kernel
end S46
open S46
theorem small46_ok (w : World) : Calls Try.prog 11 #[] w fun r w' => r = .returned (.bool true) ∧ Le w w' := by
  refine enter Try.func11 rfl rfl ?_
  have L0 := Le.refl w
  refine WC.seq ?_
  refine WC.region ?_
  refine W.any (.assign rfl) rfl rfl rfl ?_
  refine W.nil ?_
  refine E.thenN ?_
  refine WC.seq ?_
  refine WC.region ?_
  refine W.ef rfl rfl rfl ?_
  refine Ef.buildSliceV (len := 3) [_, _, _] Try.underlying41 el3 rfl (by simp [Value.cells]) rfl (by decide) (by decide) ?_
  intro g1_0 w1_0 hg1_0 b1_0 h1_0
  have L1 := L0.trans h1_0
  have b1_0 : Blk w1_0 g1_0 3 (([100, 100, 50]).map iv).flatten.toArray := b1_0
  have o1_0 : OVec w1_0 w.heap.size 3 iv 1 (some ⟨g1_0, 0, none⟩) 3 3 ([100, 100, 50]) := b1_0.ovec hg1_0 iv_row rfl rfl (by decide)
  refine W.ef rfl rfl rfl ?_
  refine Ef.call go18 rfl rfl (new_led w1_0 o1_0.vec (by decide)) ?_
  rintro _ w1_1 ⟨gp1_1, F1_1, rfl, p1_1, h1_1⟩
  refine ⟨_, rfl, ?_⟩
  have L2 := L1.trans h1_1
  refine W.any (.assign rfl) rfl rfl rfl ?_
  refine W.nil ?_
  refine E.thenN ?_
  refine WC.seq ?_
  refine WC.seq ?_
  refine WC.region ?_
  refine W.any (.move rfl) rfl rfl rfl ?_
  refine W.any (.dec (.isNilP (by kernel_rfl) rfl) rfl) rfl rfl rfl ?_
  refine W.any (.move rfl) rfl rfl rfl ?_
  refine W.efg rfl rfl rfl (rfl) rfl rfl ?_
  refine Ef.call go18 rfl rfl (new_none w1_1 (Vec.nil _ _ _ _) (by decide)) ?_
  rintro _ w2_3 ⟨rfl, h2_3⟩
  refine ⟨_, rfl, ?_⟩
  have L3 := L2.trans h2_3
  refine W.rdg (Any.rd (.dec (.notNilP (by kernel_rfl) rfl) rfl) _) rfl rfl rfl (rfl) rfl rfl ?_
  refine W.any (.pickF rfl rfl rfl) rfl rfl rfl ?_
  refine W.any (.move rfl) rfl rfl rfl ?_
  refine W.efg rfl rfl rfl (rfl) rfl rfl ?_
  refine Ef.buildSliceV (len := 2) [_, _] Try.underlying41 el3 rfl (by simp [Value.cells]) rfl (by decide) (by decide) ?_
  intro g2_7 w2_7 hg2_7 b2_7 h2_7
  have L4 := L3.trans h2_7
  have b2_7 : Blk w2_7 g2_7 3 (([1125899906842624, 1]).map iv).flatten.toArray := b2_7
  have o2_7 : OVec w2_7 w2_3.heap.size 3 iv 1 (some ⟨g2_7, 0, none⟩) 2 2 ([1125899906842624, 1]) := b2_7.ovec hg2_7 iv_row rfl rfl (by decide)
  refine W.efg rfl rfl rfl (rfl) rfl rfl ?_
  refine Ef.call go18 rfl rfl (new_none w2_7 o2_7.vec (by decide)) ?_
  rintro _ w2_8 ⟨rfl, h2_8⟩
  refine ⟨_, rfl, ?_⟩
  have L5 := L4.trans h2_8
  refine W.rdg (Any.rd (.dec (.notNilP (by kernel_rfl) rfl) rfl) _) rfl rfl rfl (rfl) rfl rfl ?_
  refine W.any (.pickF rfl rfl rfl) rfl rfl rfl ?_
  refine W.any (.move rfl) rfl rfl rfl ?_
  refine W.efg rfl rfl rfl (rfl) rfl rfl ?_
  refine Ef.buildSliceV (len := 1) [_] Try.underlying41 el3 rfl (by simp [Value.cells]) rfl (by decide) (by decide) ?_
  intro g2_12 w2_12 hg2_12 b2_12 h2_12
  have L6 := L5.trans h2_12
  have b2_12 : Blk w2_12 g2_12 3 (([(-1)]).map iv).flatten.toArray := b2_12
  have o2_12 : OVec w2_12 w2_8.heap.size 3 iv 1 (some ⟨g2_12, 0, none⟩) 1 1 ([(-1)]) := b2_12.ovec hg2_12 iv_row rfl rfl (by decide)
  refine W.efg rfl rfl rfl (rfl) rfl rfl ?_
  refine Ef.call go18 rfl rfl (new_none w2_12 o2_12.vec (by decide)) ?_
  rintro _ w2_13 ⟨rfl, h2_13⟩
  refine ⟨_, rfl, ?_⟩
  have L7 := L6.trans h2_13
  refine W.rdg (Any.rd (.dec (.notNilP (by kernel_rfl) rfl) rfl) _) rfl rfl rfl (rfl) rfl rfl ?_
  refine W.any (.pickF rfl rfl rfl) rfl rfl rfl ?_
  refine W.nil ?_
  refine E.thenN ?_
  refine WC.condF rfl ?_
  refine WC.skip ?_
  refine E.thenN ?_
  refine WC.seq ?_
  refine WC.region ?_
  refine W.any (.move rfl) rfl rfl rfl ?_
  refine W.any (.buildA (cells := (pairV (⟨0, 1⟩ : Pair)).toArray) Try.underlying31 sz3 z31 rfl rfl) rfl rfl rfl ?_
  refine W.any (.buildA (cells := (pairV (⟨60, 0⟩ : Pair)).toArray) Try.underlying31 sz3 z31 rfl rfl) rfl rfl rfl ?_
  refine W.any (.buildP (seatV (⟨3, 0, 1, 60, 0⟩ : Seat)) pl33 z33 rfl rfl) rfl rfl rfl ?_
  have f8 := (p1_1.le (h2_3.trans (h2_7.trans (h2_8.trans (h2_12.trans h2_13)))))
  refine W.ef rfl rfl rfl ?_
  refine Ef.call go40 rfl rfl ((by have h := open_led (s := s0) (⟨3, 0, 1, 60, 0⟩ : Seat) 5 f8; rw [e1] at h; exact h)) ?_
  rintro _ w4_4 ⟨F4_4, rfl, p4_4, g4_4, h4_4⟩
  refine ⟨_, rfl, ?_⟩
  have L9 := L7.chP_then h4_4 (fun i hi => Nat.le_trans L1.size (f8.old hi))
  have f10 := (o1_0.le (h1_1.trans (h2_3.trans (h2_7.trans (h2_8.trans (h2_12.trans h2_13))))))
  have f11 := (o2_7.le (h2_8.trans (h2_12.trans h2_13)))
  have f12 := (o2_12.le h2_13)
  have zq13n := (show ∀ g, rowOf (some ⟨g1_0, 0, none⟩) 3 = some g → ¬ F1_1 g from (fun g hg hF => by have := f8.old hF;  have := (o1_0.row hg).2; omega))
  have zq13 := f10.chP h4_4 zq13n
  have zq13g : ∀ g, rowOf (some ⟨g1_0, 0, none⟩) 3 = some g → ¬ F4_4 g := fun g hg hF => (g4_4 _ hF).elim (zq13n g hg) (fun hz => by have := (f10.row hg).2; omega)
  have zq14n := (show ∀ g, rowOf (some ⟨g2_7, 0, none⟩) 2 = some g → ¬ F1_1 g from (fun g hg hF => by have := p1_1.lt hF; have := h2_3.size; have := (f11.row hg).1; omega))
  have zq14 := f11.chP h4_4 zq14n
  have zq14g : ∀ g, rowOf (some ⟨g2_7, 0, none⟩) 2 = some g → ¬ F4_4 g := fun g hg hF => (g4_4 _ hF).elim (zq14n g hg) (fun hz => by have := (f11.row hg).2; omega)
  have zq15n := (show ∀ g, rowOf (some ⟨g2_12, 0, none⟩) 1 = some g → ¬ F1_1 g from (fun g hg hF => by have := p1_1.lt hF; have := h2_3.size; have := h2_7.size; have := h2_8.size; have := (f12.row hg).1; omega))
  have zq15 := f12.chP h4_4 zq15n
  have zq15g : ∀ g, rowOf (some ⟨g2_12, 0, none⟩) 1 = some g → ¬ F4_4 g := fun g hg hF => (g4_4 _ hF).elim (zq15n g hg) (fun hz => by have := (f12.row hg).2; omega)
  refine W.any (.dec (.eql rfl rfl) (show _ = true from by decide)) rfl rfl rfl ?_
  refine W.any (.move rfl) rfl rfl rfl ?_
  refine W.rdg (Any.rd (.move rfl) _) rfl rfl rfl (rfl) rfl rfl ?_
  refine W.rdg (Any.rd (.buildA (cells := (pairV (⟨1, 2⟩ : Pair)).toArray) Try.underlying31 sz3 z31 rfl rfl) _) rfl rfl rfl (rfl) rfl rfl ?_
  refine W.rdg (Any.rd (.buildP (seatV (⟨3, 1, 2, 0, 0⟩ : Seat)) pl33 z33 rfl rfl) _) rfl rfl rfl (rfl) rfl rfl ?_
  refine W.efg rfl rfl rfl (rfl) rfl rfl ?_
  refine Ef.call go40 rfl rfl ((by have h := open_led (s := s1) (⟨3, 1, 2, 0, 0⟩ : Seat) 0 p4_4; rw [e2] at h; exact h)) ?_
  rintro _ w4_10 ⟨F4_10, rfl, p4_10, g4_10, h4_10⟩
  refine ⟨_, rfl, ?_⟩
  have L16 := L9.chP_then h4_10 (fun i hi => Nat.le_trans L1.size (p4_4.old hi))
  have zq17n := (show ∀ g, rowOf (some ⟨g1_0, 0, none⟩) 3 = some g → ¬ F4_4 g from zq13g)
  have zq17 := zq13.chP h4_10 zq17n
  have zq17g : ∀ g, rowOf (some ⟨g1_0, 0, none⟩) 3 = some g → ¬ F4_10 g := fun g hg hF => (g4_10 _ hF).elim (zq17n g hg) (fun hz => by have := (zq13.row hg).2; omega)
  have zq18n := (show ∀ g, rowOf (some ⟨g2_7, 0, none⟩) 2 = some g → ¬ F4_4 g from zq14g)
  have zq18 := zq14.chP h4_10 zq18n
  have zq18g : ∀ g, rowOf (some ⟨g2_7, 0, none⟩) 2 = some g → ¬ F4_10 g := fun g hg hF => (g4_10 _ hF).elim (zq18n g hg) (fun hz => by have := (zq14.row hg).2; omega)
  have zq19n := (show ∀ g, rowOf (some ⟨g2_12, 0, none⟩) 1 = some g → ¬ F4_4 g from zq15g)
  have zq19 := zq15.chP h4_10 zq19n
  have zq19g : ∀ g, rowOf (some ⟨g2_12, 0, none⟩) 1 = some g → ¬ F4_10 g := fun g hg hF => (g4_10 _ hF).elim (zq19n g hg) (fun hz => by have := (zq15.row hg).2; omega)
  refine W.rdg (Any.rd (.dec (.eql rfl rfl) (show _ = true from by decide)) _) rfl rfl rfl (rfl) rfl rfl ?_
  refine W.any (.pickT rfl rfl rfl) rfl rfl rfl ?_
  refine W.any (.move rfl) rfl rfl rfl ?_
  refine W.rdg (Any.rd (.move rfl) _) rfl rfl rfl (rfl) rfl rfl ?_
  refine W.rdg (Any.rd (.buildA (cells := (pairV (⟨0, 1⟩ : Pair)).toArray) Try.underlying31 sz3 z31 rfl rfl) _) rfl rfl rfl (rfl) rfl rfl ?_
  refine W.rdg (Any.rd (.buildA (cells := (pairV (⟨36, 0⟩ : Pair)).toArray) Try.underlying31 sz3 z31 rfl rfl) _) rfl rfl rfl (rfl) rfl rfl ?_
  refine W.rdg (Any.rd (.buildP (seatV (⟨4, 0, 1, 36, 0⟩ : Seat)) pl33 z33 rfl rfl) _) rfl rfl rfl (rfl) rfl rfl ?_
  refine W.efg rfl rfl rfl (rfl) rfl rfl ?_
  refine Ef.call go40 rfl rfl ((by have h := open_led (s := s1) (⟨4, 0, 1, 36, 0⟩ : Seat) 0 p4_10; rw [e3] at h; exact h)) ?_
  rintro _ w4_18 ⟨F4_18, rfl, p4_18, g4_18, h4_18⟩
  refine ⟨_, rfl, ?_⟩
  have L20 := L16.chP_then h4_18 (fun i hi => Nat.le_trans L1.size (p4_10.old hi))
  have zq21n := (show ∀ g, rowOf (some ⟨g1_0, 0, none⟩) 3 = some g → ¬ F4_10 g from zq17g)
  have zq21 := zq17.chP h4_18 zq21n
  have zq21g : ∀ g, rowOf (some ⟨g1_0, 0, none⟩) 3 = some g → ¬ F4_18 g := fun g hg hF => (g4_18 _ hF).elim (zq21n g hg) (fun hz => by have := (zq17.row hg).2; omega)
  have zq22n := (show ∀ g, rowOf (some ⟨g2_7, 0, none⟩) 2 = some g → ¬ F4_10 g from zq18g)
  have zq22 := zq18.chP h4_18 zq22n
  have zq22g : ∀ g, rowOf (some ⟨g2_7, 0, none⟩) 2 = some g → ¬ F4_18 g := fun g hg hF => (g4_18 _ hF).elim (zq22n g hg) (fun hz => by have := (zq18.row hg).2; omega)
  have zq23n := (show ∀ g, rowOf (some ⟨g2_12, 0, none⟩) 1 = some g → ¬ F4_10 g from zq19g)
  have zq23 := zq19.chP h4_18 zq23n
  have zq23g : ∀ g, rowOf (some ⟨g2_12, 0, none⟩) 1 = some g → ¬ F4_18 g := fun g hg hF => (g4_18 _ hF).elim (zq23n g hg) (fun hz => by have := (zq19.row hg).2; omega)
  refine W.rdg (Any.rd (.dec (.eql rfl rfl) (show _ = true from by decide)) _) rfl rfl rfl (rfl) rfl rfl ?_
  refine W.any (.pickT rfl rfl rfl) rfl rfl rfl ?_
  refine W.any (.move rfl) rfl rfl rfl ?_
  refine W.rdg (Any.rd (.move rfl) _) rfl rfl rfl (rfl) rfl rfl ?_
  refine W.efg rfl rfl rfl (rfl) rfl rfl ?_
  refine Ef.call go16 rfl rfl ((by have h := own_led (s := s1) 0 p4_18; rw [e4] at h; exact h)) ?_
  rintro _ w4_23 ⟨rfl, h4_23⟩
  refine ⟨_, rfl, ?_⟩
  have L24 := L20.trans h4_23
  refine W.rdg (Any.rd (.dec (.eql rfl rfl) (show _ = true from by decide)) _) rfl rfl rfl (rfl) rfl rfl ?_
  refine W.any (.pickT rfl rfl rfl) rfl rfl rfl ?_
  refine W.any (.move rfl) rfl rfl rfl ?_
  refine W.rdg (Any.rd (.move rfl) _) rfl rfl rfl (rfl) rfl rfl ?_
  have f25 := (p4_18.le h4_23)
  refine W.efg rfl rfl rfl (rfl) rfl rfl ?_
  refine Ef.call go15 rfl rfl ((by have h := worth_led (s := s1) 0 f25; rw [e5] at h; exact h)) ?_
  rintro _ w4_28 ⟨rfl, h4_28⟩
  refine ⟨_, rfl, ?_⟩
  have L26 := L24.trans h4_28
  refine W.rdg (Any.rd (.dec (.eql rfl rfl) (show _ = true from by decide)) _) rfl rfl rfl (rfl) rfl rfl ?_
  refine W.any (.pickT rfl rfl rfl) rfl rfl rfl ?_
  refine W.any (.assign rfl) rfl rfl rfl ?_
  refine W.nil ?_
  refine E.thenN ?_
  refine WC.seq ?_
  refine WC.region ?_
  refine W.any (.move rfl) rfl rfl rfl ?_
  have f27 := (f25.le h4_28)
  refine W.ef rfl rfl rfl ?_
  refine Ef.call go24 rfl rfl ((by have h := offer_led (s := s1) 3 0 1 40 16 (by omega) f27; rw [e6] at h; exact h)) ?_
  rintro _ w5_1 ⟨F5_1, rfl, p5_1, g5_1, h5_1⟩
  refine ⟨_, rfl, ?_⟩
  have L28 := L26.chP_then h5_1 (fun i hi => Nat.le_trans L1.size (f27.old hi))
  have f29 := (zq21.le (h4_23.trans h4_28))
  have f30 := (zq22.le (h4_23.trans h4_28))
  have f31 := (zq23.le (h4_23.trans h4_28))
  have zq32n := (show ∀ g, rowOf (some ⟨g1_0, 0, none⟩) 3 = some g → ¬ F4_18 g from zq21g)
  have zq32 := f29.chP h5_1 zq32n
  have zq32g : ∀ g, rowOf (some ⟨g1_0, 0, none⟩) 3 = some g → ¬ F5_1 g := fun g hg hF => (g5_1 _ hF).elim (zq32n g hg) (fun hz => by have := (f29.row hg).2; omega)
  have zq33n := (show ∀ g, rowOf (some ⟨g2_7, 0, none⟩) 2 = some g → ¬ F4_18 g from zq22g)
  have zq33 := f30.chP h5_1 zq33n
  have zq33g : ∀ g, rowOf (some ⟨g2_7, 0, none⟩) 2 = some g → ¬ F5_1 g := fun g hg hF => (g5_1 _ hF).elim (zq33n g hg) (fun hz => by have := (f30.row hg).2; omega)
  have zq34n := (show ∀ g, rowOf (some ⟨g2_12, 0, none⟩) 1 = some g → ¬ F4_18 g from zq23g)
  have zq34 := f31.chP h5_1 zq34n
  have zq34g : ∀ g, rowOf (some ⟨g2_12, 0, none⟩) 1 = some g → ¬ F5_1 g := fun g hg hF => (g5_1 _ hF).elim (zq34n g hg) (fun hz => by have := (f31.row hg).2; omega)
  refine W.any (.dec (.eql rfl rfl) (show _ = true from by decide)) rfl rfl rfl ?_
  refine W.any (.move rfl) rfl rfl rfl ?_
  refine W.rdg (Any.rd (.move rfl) _) rfl rfl rfl (rfl) rfl rfl ?_
  refine W.efg rfl rfl rfl (rfl) rfl rfl ?_
  refine Ef.call go26 rfl rfl ((by have h := held_led (s := s6) 3 0 p5_1; rw [e7] at h; exact h)) ?_
  rintro _ w5_5 ⟨rfl, h5_5⟩
  refine ⟨_, rfl, ?_⟩
  have L35 := L28.trans h5_5
  refine W.rdg (Any.rd (.dec (.eql rfl rfl) (show _ = true from by decide)) _) rfl rfl rfl (rfl) rfl rfl ?_
  refine W.any (.pickT rfl rfl rfl) rfl rfl rfl ?_
  refine W.any (.move rfl) rfl rfl rfl ?_
  refine W.rdg (Any.rd (.move rfl) _) rfl rfl rfl (rfl) rfl rfl ?_
  have f36 := (p5_1.le h5_5)
  refine W.efg rfl rfl rfl (rfl) rfl rfl ?_
  refine Ef.call go15 rfl rfl ((by have h := worth_led (s := s6) 0 f36; rw [e8] at h; exact h)) ?_
  rintro _ w5_10 ⟨rfl, h5_10⟩
  refine ⟨_, rfl, ?_⟩
  have L37 := L35.trans h5_10
  refine W.rdg (Any.rd (.dec (.eql rfl rfl) (show _ = true from by decide)) _) rfl rfl rfl (rfl) rfl rfl ?_
  refine W.any (.pickT rfl rfl rfl) rfl rfl rfl ?_
  refine W.any (.move rfl) rfl rfl rfl ?_
  refine W.rdg (Any.rd (.move rfl) _) rfl rfl rfl (rfl) rfl rfl ?_
  refine W.rdg (Any.rd (.buildA (cells := (pairV (⟨0, 0⟩ : Pair)).toArray) Try.underlying31 sz3 z31 rfl rfl) _) rfl rfl rfl (rfl) rfl rfl ?_
  have f38 := (f36.le h5_10)
  refine W.efg rfl rfl rfl (rfl) rfl rfl ?_
  refine Ef.call go42 rfl rfl ((by have h := close_led (s := s6) 3 (⟨0, 0⟩ : Pair) f38; rw [e9] at h; exact h)) ?_
  rintro _ w5_16 ⟨F5_16, rfl, p5_16, g5_16, h5_16⟩
  refine ⟨_, rfl, ?_⟩
  have L39 := L37.chP_then h5_16 (fun i hi => Nat.le_trans L1.size (f38.old hi))
  have f40 := (zq32.le (h5_5.trans h5_10))
  have f41 := (zq33.le (h5_5.trans h5_10))
  have f42 := (zq34.le (h5_5.trans h5_10))
  have zq43n := (show ∀ g, rowOf (some ⟨g1_0, 0, none⟩) 3 = some g → ¬ F5_1 g from zq32g)
  have zq43 := f40.chP h5_16 zq43n
  have zq43g : ∀ g, rowOf (some ⟨g1_0, 0, none⟩) 3 = some g → ¬ F5_16 g := fun g hg hF => (g5_16 _ hF).elim (zq43n g hg) (fun hz => by have := (f40.row hg).2; omega)
  have zq44n := (show ∀ g, rowOf (some ⟨g2_7, 0, none⟩) 2 = some g → ¬ F5_1 g from zq33g)
  have zq44 := f41.chP h5_16 zq44n
  have zq44g : ∀ g, rowOf (some ⟨g2_7, 0, none⟩) 2 = some g → ¬ F5_16 g := fun g hg hF => (g5_16 _ hF).elim (zq44n g hg) (fun hz => by have := (f41.row hg).2; omega)
  have zq45n := (show ∀ g, rowOf (some ⟨g2_12, 0, none⟩) 1 = some g → ¬ F5_1 g from zq34g)
  have zq45 := f42.chP h5_16 zq45n
  have zq45g : ∀ g, rowOf (some ⟨g2_12, 0, none⟩) 1 = some g → ¬ F5_16 g := fun g hg hF => (g5_16 _ hF).elim (zq45n g hg) (fun hz => by have := (f42.row hg).2; omega)
  refine W.rdg (Any.rd (.dec (.eql rfl rfl) (show _ = true from by decide)) _) rfl rfl rfl (rfl) rfl rfl ?_
  refine W.any (.pickT rfl rfl rfl) rfl rfl rfl ?_
  refine W.any (.move rfl) rfl rfl rfl ?_
  refine W.rdg (Any.rd (.move rfl) _) rfl rfl rfl (rfl) rfl rfl ?_
  refine W.efg rfl rfl rfl (rfl) rfl rfl ?_
  refine Ef.call go27 rfl rfl ((by have h := settle_led (s := s6) 3 0 1 3 p5_16; rw [e10] at h; exact h)) ?_
  rintro _ w5_21 ⟨F5_21, rfl, p5_21, g5_21, h5_21⟩
  refine ⟨_, rfl, ?_⟩
  have L46 := L39.chP_then h5_21 (fun i hi => Nat.le_trans L1.size (p5_16.old hi))
  have zq47n := (show ∀ g, rowOf (some ⟨g1_0, 0, none⟩) 3 = some g → ¬ F5_16 g from zq43g)
  have zq47 := zq43.chP h5_21 zq47n
  have zq47g : ∀ g, rowOf (some ⟨g1_0, 0, none⟩) 3 = some g → ¬ F5_21 g := fun g hg hF => (g5_21 _ hF).elim (zq47n g hg) (fun hz => by have := (zq43.row hg).2; omega)
  have zq48n := (show ∀ g, rowOf (some ⟨g2_7, 0, none⟩) 2 = some g → ¬ F5_16 g from zq44g)
  have zq48 := zq44.chP h5_21 zq48n
  have zq48g : ∀ g, rowOf (some ⟨g2_7, 0, none⟩) 2 = some g → ¬ F5_21 g := fun g hg hF => (g5_21 _ hF).elim (zq48n g hg) (fun hz => by have := (zq44.row hg).2; omega)
  have zq49n := (show ∀ g, rowOf (some ⟨g2_12, 0, none⟩) 1 = some g → ¬ F5_16 g from zq45g)
  have zq49 := zq45.chP h5_21 zq49n
  have zq49g : ∀ g, rowOf (some ⟨g2_12, 0, none⟩) 1 = some g → ¬ F5_21 g := fun g hg hF => (g5_21 _ hF).elim (zq49n g hg) (fun hz => by have := (zq45.row hg).2; omega)
  refine W.rdg (Any.rd (.dec (.eql rfl rfl) (show _ = true from by decide)) _) rfl rfl rfl (rfl) rfl rfl ?_
  refine W.any (.pickT rfl rfl rfl) rfl rfl rfl ?_
  refine W.any (.move rfl) rfl rfl rfl ?_
  refine W.rdg (Any.rd (.move rfl) _) rfl rfl rfl (rfl) rfl rfl ?_
  refine W.efg rfl rfl rfl (rfl) rfl rfl ?_
  refine Ef.call go27 rfl rfl ((by have h := settle_led (s := s6) 3 0 1 2 p5_21; rw [e11] at h; exact h)) ?_
  rintro _ w5_26 ⟨F5_26, rfl, p5_26, g5_26, h5_26⟩
  refine ⟨_, rfl, ?_⟩
  have L50 := L46.chP_then h5_26 (fun i hi => Nat.le_trans L1.size (p5_21.old hi))
  have zq51n := (show ∀ g, rowOf (some ⟨g1_0, 0, none⟩) 3 = some g → ¬ F5_21 g from zq47g)
  have zq51 := zq47.chP h5_26 zq51n
  have zq51g : ∀ g, rowOf (some ⟨g1_0, 0, none⟩) 3 = some g → ¬ F5_26 g := fun g hg hF => (g5_26 _ hF).elim (zq51n g hg) (fun hz => by have := (zq47.row hg).2; omega)
  have zq52n := (show ∀ g, rowOf (some ⟨g2_7, 0, none⟩) 2 = some g → ¬ F5_21 g from zq48g)
  have zq52 := zq48.chP h5_26 zq52n
  have zq52g : ∀ g, rowOf (some ⟨g2_7, 0, none⟩) 2 = some g → ¬ F5_26 g := fun g hg hF => (g5_26 _ hF).elim (zq52n g hg) (fun hz => by have := (zq48.row hg).2; omega)
  have zq53n := (show ∀ g, rowOf (some ⟨g2_12, 0, none⟩) 1 = some g → ¬ F5_21 g from zq49g)
  have zq53 := zq49.chP h5_26 zq53n
  have zq53g : ∀ g, rowOf (some ⟨g2_12, 0, none⟩) 1 = some g → ¬ F5_26 g := fun g hg hF => (g5_26 _ hF).elim (zq53n g hg) (fun hz => by have := (zq49.row hg).2; omega)
  refine W.rdg (Any.rd (.dec (.eql rfl rfl) (show _ = true from by decide)) _) rfl rfl rfl (rfl) rfl rfl ?_
  refine W.any (.pickT rfl rfl rfl) rfl rfl rfl ?_
  refine W.any (.move rfl) rfl rfl rfl ?_
  refine W.rdg (Any.rd (.move rfl) _) rfl rfl rfl (rfl) rfl rfl ?_
  refine W.efg rfl rfl rfl (rfl) rfl rfl ?_
  refine Ef.call go15 rfl rfl ((by have h := worth_led (s := s11) 1 p5_26; rw [e12] at h; exact h)) ?_
  rintro _ w5_31 ⟨rfl, h5_31⟩
  refine ⟨_, rfl, ?_⟩
  have L54 := L50.trans h5_31
  refine W.rdg (Any.rd (.dec (.eql rfl rfl) (show _ = true from by decide)) _) rfl rfl rfl (rfl) rfl rfl ?_
  refine W.any (.pickT rfl rfl rfl) rfl rfl rfl ?_
  refine W.any (.move rfl) rfl rfl rfl ?_
  refine W.rdg (Any.rd (.move rfl) _) rfl rfl rfl (rfl) rfl rfl ?_
  have f55 := (p5_26.le h5_31)
  refine W.efg rfl rfl rfl (rfl) rfl rfl ?_
  refine Ef.call go28 rfl rfl ((by have h := fail_led (s := s11) 3 0 1 f55; rw [e13] at h; exact h)) ?_
  rintro _ w5_36 ⟨F5_36, rfl, p5_36, g5_36, h5_36⟩
  refine ⟨_, rfl, ?_⟩
  have L56 := L54.chP_then h5_36 (fun i hi => Nat.le_trans L1.size (f55.old hi))
  have f57 := (zq51.le h5_31)
  have f58 := (zq52.le h5_31)
  have f59 := (zq53.le h5_31)
  have zq60n := (show ∀ g, rowOf (some ⟨g1_0, 0, none⟩) 3 = some g → ¬ F5_26 g from zq51g)
  have zq60 := f57.chP h5_36 zq60n
  have zq60g : ∀ g, rowOf (some ⟨g1_0, 0, none⟩) 3 = some g → ¬ F5_36 g := fun g hg hF => (g5_36 _ hF).elim (zq60n g hg) (fun hz => by have := (f57.row hg).2; omega)
  have zq61n := (show ∀ g, rowOf (some ⟨g2_7, 0, none⟩) 2 = some g → ¬ F5_26 g from zq52g)
  have zq61 := f58.chP h5_36 zq61n
  have zq61g : ∀ g, rowOf (some ⟨g2_7, 0, none⟩) 2 = some g → ¬ F5_36 g := fun g hg hF => (g5_36 _ hF).elim (zq61n g hg) (fun hz => by have := (f58.row hg).2; omega)
  have zq62n := (show ∀ g, rowOf (some ⟨g2_12, 0, none⟩) 1 = some g → ¬ F5_26 g from zq53g)
  have zq62 := f59.chP h5_36 zq62n
  have zq62g : ∀ g, rowOf (some ⟨g2_12, 0, none⟩) 1 = some g → ¬ F5_36 g := fun g hg hF => (g5_36 _ hF).elim (zq62n g hg) (fun hz => by have := (f59.row hg).2; omega)
  refine W.rdg (Any.rd (.dec (.eql rfl rfl) (show _ = true from by decide)) _) rfl rfl rfl (rfl) rfl rfl ?_
  refine W.any (.pickT rfl rfl rfl) rfl rfl rfl ?_
  refine W.any (.assign rfl) rfl rfl rfl ?_
  refine W.nil ?_
  refine E.thenN ?_
  refine WC.seq ?_
  refine WC.region ?_
  refine W.any (.move rfl) rfl rfl rfl ?_
  refine W.any (.buildA (cells := (pairV (⟨1, 2⟩ : Pair)).toArray) Try.underlying31 sz3 z31 rfl rfl) rfl rfl rfl ?_
  refine W.any (.buildA (cells := (pairV (⟨30, 10⟩ : Pair)).toArray) Try.underlying31 sz3 z31 rfl rfl) rfl rfl rfl ?_
  refine W.any (.buildP (seatV (⟨7, 1, 2, 30, 10⟩ : Seat)) pl33 z33 rfl rfl) rfl rfl rfl ?_
  refine W.ef rfl rfl rfl ?_
  refine Ef.call go40 rfl rfl ((by have h := open_led (s := s11) (⟨7, 1, 2, 30, 10⟩ : Seat) 0 p5_36; rw [e14] at h; exact h)) ?_
  rintro _ w6_4 ⟨F6_4, rfl, p6_4, g6_4, h6_4⟩
  refine ⟨_, rfl, ?_⟩
  have L63 := L56.chP_then h6_4 (fun i hi => Nat.le_trans L1.size (p5_36.old hi))
  have zq64n := (show ∀ g, rowOf (some ⟨g1_0, 0, none⟩) 3 = some g → ¬ F5_36 g from zq60g)
  have zq64 := zq60.chP h6_4 zq64n
  have zq64g : ∀ g, rowOf (some ⟨g1_0, 0, none⟩) 3 = some g → ¬ F6_4 g := fun g hg hF => (g6_4 _ hF).elim (zq64n g hg) (fun hz => by have := (zq60.row hg).2; omega)
  have zq65n := (show ∀ g, rowOf (some ⟨g2_7, 0, none⟩) 2 = some g → ¬ F5_36 g from zq61g)
  have zq65 := zq61.chP h6_4 zq65n
  have zq65g : ∀ g, rowOf (some ⟨g2_7, 0, none⟩) 2 = some g → ¬ F6_4 g := fun g hg hF => (g6_4 _ hF).elim (zq65n g hg) (fun hz => by have := (zq61.row hg).2; omega)
  have zq66n := (show ∀ g, rowOf (some ⟨g2_12, 0, none⟩) 1 = some g → ¬ F5_36 g from zq62g)
  have zq66 := zq62.chP h6_4 zq66n
  have zq66g : ∀ g, rowOf (some ⟨g2_12, 0, none⟩) 1 = some g → ¬ F6_4 g := fun g hg hF => (g6_4 _ hF).elim (zq66n g hg) (fun hz => by have := (zq62.row hg).2; omega)
  refine W.any (.dec (.eql rfl rfl) (show _ = true from by decide)) rfl rfl rfl ?_
  refine W.any (.move rfl) rfl rfl rfl ?_
  refine W.rdg (Any.rd (.move rfl) _) rfl rfl rfl (rfl) rfl rfl ?_
  refine W.rdg (Any.rd (.buildP (legV (⟨3, 0, 12⟩ : Leg)) pl37 z37 rfl rfl) _) rfl rfl rfl (rfl) rfl rfl ?_
  refine W.rdg (Any.rd (.buildP (legV (⟨7, 0, 11⟩ : Leg)) pl37 z37 rfl rfl) _) rfl rfl rfl (rfl) rfl rfl ?_
  refine W.efg rfl rfl rfl (rfl) rfl rfl ?_
  refine Ef.buildSliceV (len := 2) [_, _] Try.underlying24 el37 rfl (by simp [Value.cells, legV_row.len]) rfl (by decide) (by decide) ?_
  intro g6_10 w6_10 hg6_10 b6_10 h6_10
  have L67 := L63.trans h6_10
  have b6_10 : Blk w6_10 g6_10 37 (([(⟨3, 0, 12⟩ : Leg), (⟨7, 0, 11⟩ : Leg)]).map legV).flatten.toArray := b6_10
  have o6_10 : OVec w6_10 w6_4.heap.size 37 legV 3 (some ⟨g6_10, 0, none⟩) 2 2 ([(⟨3, 0, 12⟩ : Leg), (⟨7, 0, 11⟩ : Leg)]) := b6_10.ovec hg6_10 legV_row rfl rfl (by decide)
  have f68 := (p6_4.le h6_10)
  refine W.efg rfl rfl rfl (rfl) rfl rfl ?_
  refine Ef.call go13 rfl rfl ((by have h := pay_led (s := s14) (cg := 2) f68 o6_10.vec (by omega) (fun q h0 h1 h2 => (show ∀ g, rowOf (some ⟨g6_10, 0, none⟩) 2 = some g → ¬ F6_4 g from (fun g hg hF => by have := p6_4.lt hF;  have := (o6_10.row hg).1; omega)) q (rowOf_of h0 (by have := o6_10.cap; omega))); rw [e15] at h; exact h)) ?_
  rintro _ w6_11 ⟨F6_11, rfl, p6_11, g6_11, h6_11⟩
  refine ⟨_, rfl, ?_⟩
  have L69 := L67.chP_then h6_11 (fun i hi => Nat.le_trans L1.size (f68.old hi))
  have f70 := (zq64.le h6_10)
  have f71 := (zq65.le h6_10)
  have f72 := (zq66.le h6_10)
  have zq73n := (show ∀ g, rowOf (some ⟨g1_0, 0, none⟩) 3 = some g → ¬ F6_4 g from zq64g)
  have zq73 := f70.chP h6_11 zq73n
  have zq73g : ∀ g, rowOf (some ⟨g1_0, 0, none⟩) 3 = some g → ¬ F6_11 g := fun g hg hF => (g6_11 _ hF).elim (zq73n g hg) (fun hz => by have := (f70.row hg).2; omega)
  have zq74n := (show ∀ g, rowOf (some ⟨g2_7, 0, none⟩) 2 = some g → ¬ F6_4 g from zq65g)
  have zq74 := f71.chP h6_11 zq74n
  have zq74g : ∀ g, rowOf (some ⟨g2_7, 0, none⟩) 2 = some g → ¬ F6_11 g := fun g hg hF => (g6_11 _ hF).elim (zq74n g hg) (fun hz => by have := (f71.row hg).2; omega)
  have zq75n := (show ∀ g, rowOf (some ⟨g2_12, 0, none⟩) 1 = some g → ¬ F6_4 g from zq66g)
  have zq75 := f72.chP h6_11 zq75n
  have zq75g : ∀ g, rowOf (some ⟨g2_12, 0, none⟩) 1 = some g → ¬ F6_11 g := fun g hg hF => (g6_11 _ hF).elim (zq75n g hg) (fun hz => by have := (f72.row hg).2; omega)
  have zq76n := (show ∀ g, rowOf (some ⟨g6_10, 0, none⟩) 2 = some g → ¬ F6_4 g from (fun g hg hF => by have := p6_4.lt hF;  have := (o6_10.row hg).1; omega))
  have zq76 := o6_10.chP h6_11 zq76n
  have zq76g : ∀ g, rowOf (some ⟨g6_10, 0, none⟩) 2 = some g → ¬ F6_11 g := fun g hg hF => (g6_11 _ hF).elim (zq76n g hg) (fun hz => by have := (o6_10.row hg).2; omega)
  refine W.rdg (Any.rd (.dec (.eql rfl rfl) (show _ = true from by decide)) _) rfl rfl rfl (rfl) rfl rfl ?_
  refine W.any (.pickT rfl rfl rfl) rfl rfl rfl ?_
  refine W.any (.move rfl) rfl rfl rfl ?_
  refine W.rdg (Any.rd (.move rfl) _) rfl rfl rfl (rfl) rfl rfl ?_
  refine W.efg rfl rfl rfl (rfl) rfl rfl ?_
  refine Ef.call go15 rfl rfl ((by have h := worth_led (s := s15) 2 p6_11; rw [e16] at h; exact h)) ?_
  rintro _ w6_16 ⟨rfl, h6_16⟩
  refine ⟨_, rfl, ?_⟩
  have L77 := L69.trans h6_16
  refine W.rdg (Any.rd (.dec (.eql rfl rfl) (show _ = true from by decide)) _) rfl rfl rfl (rfl) rfl rfl ?_
  refine W.any (.pickT rfl rfl rfl) rfl rfl rfl ?_
  refine W.any (.move rfl) rfl rfl rfl ?_
  refine W.rdg (Any.rd (.move rfl) _) rfl rfl rfl (rfl) rfl rfl ?_
  refine W.rdg (Any.rd (.buildP (legV (⟨3, 0, 1⟩ : Leg)) pl37 z37 rfl rfl) _) rfl rfl rfl (rfl) rfl rfl ?_
  refine W.rdg (Any.rd (.buildP (legV (⟨7, 0, 99⟩ : Leg)) pl37 z37 rfl rfl) _) rfl rfl rfl (rfl) rfl rfl ?_
  refine W.efg rfl rfl rfl (rfl) rfl rfl ?_
  refine Ef.buildSliceV (len := 2) [_, _] Try.underlying24 el37 rfl (by simp [Value.cells, legV_row.len]) rfl (by decide) (by decide) ?_
  intro g6_23 w6_23 hg6_23 b6_23 h6_23
  have L78 := L77.trans h6_23
  have b6_23 : Blk w6_23 g6_23 37 (([(⟨3, 0, 1⟩ : Leg), (⟨7, 0, 99⟩ : Leg)]).map legV).flatten.toArray := b6_23
  have o6_23 : OVec w6_23 w6_16.heap.size 37 legV 3 (some ⟨g6_23, 0, none⟩) 2 2 ([(⟨3, 0, 1⟩ : Leg), (⟨7, 0, 99⟩ : Leg)]) := b6_23.ovec hg6_23 legV_row rfl rfl (by decide)
  have f79 := (p6_11.le (h6_16.trans h6_23))
  refine W.efg rfl rfl rfl (rfl) rfl rfl ?_
  refine Ef.call go13 rfl rfl ((by have h := pay_led (s := s15) (cg := 2) f79 o6_23.vec (by omega) (fun q h0 h1 h2 => (show ∀ g, rowOf (some ⟨g6_23, 0, none⟩) 2 = some g → ¬ F6_11 g from (fun g hg hF => by have := p6_11.lt hF; have := h6_16.size; have := (o6_23.row hg).1; omega)) q (rowOf_of h0 (by have := o6_23.cap; omega))); rw [e17] at h; exact h)) ?_
  rintro _ w6_24 ⟨F6_24, rfl, p6_24, g6_24, h6_24⟩
  refine ⟨_, rfl, ?_⟩
  have L80 := L78.chP_then h6_24 (fun i hi => Nat.le_trans L1.size (f79.old hi))
  have f81 := (zq73.le (h6_16.trans h6_23))
  have f82 := (zq74.le (h6_16.trans h6_23))
  have f83 := (zq75.le (h6_16.trans h6_23))
  have f84 := (zq76.le (h6_16.trans h6_23))
  have zq85n := (show ∀ g, rowOf (some ⟨g1_0, 0, none⟩) 3 = some g → ¬ F6_11 g from zq73g)
  have zq85 := f81.chP h6_24 zq85n
  have zq85g : ∀ g, rowOf (some ⟨g1_0, 0, none⟩) 3 = some g → ¬ F6_24 g := fun g hg hF => (g6_24 _ hF).elim (zq85n g hg) (fun hz => by have := (f81.row hg).2; omega)
  have zq86n := (show ∀ g, rowOf (some ⟨g2_7, 0, none⟩) 2 = some g → ¬ F6_11 g from zq74g)
  have zq86 := f82.chP h6_24 zq86n
  have zq86g : ∀ g, rowOf (some ⟨g2_7, 0, none⟩) 2 = some g → ¬ F6_24 g := fun g hg hF => (g6_24 _ hF).elim (zq86n g hg) (fun hz => by have := (f82.row hg).2; omega)
  have zq87n := (show ∀ g, rowOf (some ⟨g2_12, 0, none⟩) 1 = some g → ¬ F6_11 g from zq75g)
  have zq87 := f83.chP h6_24 zq87n
  have zq87g : ∀ g, rowOf (some ⟨g2_12, 0, none⟩) 1 = some g → ¬ F6_24 g := fun g hg hF => (g6_24 _ hF).elim (zq87n g hg) (fun hz => by have := (f83.row hg).2; omega)
  have zq88n := (show ∀ g, rowOf (some ⟨g6_10, 0, none⟩) 2 = some g → ¬ F6_11 g from zq76g)
  have zq88 := f84.chP h6_24 zq88n
  have zq88g : ∀ g, rowOf (some ⟨g6_10, 0, none⟩) 2 = some g → ¬ F6_24 g := fun g hg hF => (g6_24 _ hF).elim (zq88n g hg) (fun hz => by have := (f84.row hg).2; omega)
  have zq89n := (show ∀ g, rowOf (some ⟨g6_23, 0, none⟩) 2 = some g → ¬ F6_11 g from (fun g hg hF => by have := p6_11.lt hF; have := h6_16.size; have := (o6_23.row hg).1; omega))
  have zq89 := o6_23.chP h6_24 zq89n
  have zq89g : ∀ g, rowOf (some ⟨g6_23, 0, none⟩) 2 = some g → ¬ F6_24 g := fun g hg hF => (g6_24 _ hF).elim (zq89n g hg) (fun hz => by have := (o6_23.row hg).2; omega)
  refine W.rdg (Any.rd (.dec (.eql rfl rfl) (show _ = true from by decide)) _) rfl rfl rfl (rfl) rfl rfl ?_
  refine W.any (.pickT rfl rfl rfl) rfl rfl rfl ?_
  refine W.any (.move rfl) rfl rfl rfl ?_
  refine W.rdg (Any.rd (.move rfl) _) rfl rfl rfl (rfl) rfl rfl ?_
  refine W.efg rfl rfl rfl (rfl) rfl rfl ?_
  refine Ef.call go15 rfl rfl ((by have h := worth_led (s := s15) 0 p6_24; rw [e18] at h; exact h)) ?_
  rintro _ w6_29 ⟨rfl, h6_29⟩
  refine ⟨_, rfl, ?_⟩
  have L90 := L80.trans h6_29
  refine W.rdg (Any.rd (.dec (.eql rfl rfl) (show _ = true from by decide)) _) rfl rfl rfl (rfl) rfl rfl ?_
  refine W.any (.pickT rfl rfl rfl) rfl rfl rfl ?_
  refine W.any (.assign rfl) rfl rfl rfl ?_
  refine W.nil ?_
  refine E.thenN ?_
  refine WC.seq ?_
  refine WC.region ?_
  refine W.any (.move rfl) rfl rfl rfl ?_
  refine W.ef rfl rfl rfl ?_
  refine Ef.buildSliceV (len := 2) [_, _] Try.underlying41 el3 rfl (by simp [Value.cells]) rfl (by decide) (by decide) ?_
  intro g7_1 w7_1 hg7_1 b7_1 h7_1
  have L91 := L90.trans h7_1
  have b7_1 : Blk w7_1 g7_1 3 (([3, 7]).map iv).flatten.toArray := b7_1
  have o7_1 : OVec w7_1 w6_29.heap.size 3 iv 1 (some ⟨g7_1, 0, none⟩) 2 2 ([3, 7]) := b7_1.ovec hg7_1 iv_row rfl rfl (by decide)
  refine W.any (.buildA (cells := (pairV (⟨0, 2⟩ : Pair)).toArray) Try.underlying31 sz3 z31 rfl rfl) rfl rfl rfl ?_
  refine W.any (.buildA (cells := (pairV (⟨8, 21⟩ : Pair)).toArray) Try.underlying31 sz3 z31 rfl rfl) rfl rfl rfl ?_
  refine W.any (.buildP (seatV (⟨3, 0, 2, 8, 21⟩ : Seat)) pl33 z33 rfl rfl) rfl rfl rfl ?_
  refine W.any (.buildA (cells := (pairV (⟨1, 0⟩ : Pair)).toArray) Try.underlying31 sz3 z31 rfl rfl) rfl rfl rfl ?_
  refine W.any (.buildA (cells := (pairV (⟨70, 0⟩ : Pair)).toArray) Try.underlying31 sz3 z31 rfl rfl) rfl rfl rfl ?_
  refine W.any (.buildP (seatV (⟨9, 1, 0, 70, 0⟩ : Seat)) pl33 z33 rfl rfl) rfl rfl rfl ?_
  refine W.ef rfl rfl rfl ?_
  refine Ef.buildSliceV (len := 2) [_, _] Try.underlying50 el33 rfl (by simp [Value.cells, seatV_row.len]) rfl (by decide) (by decide) ?_
  intro g7_8 w7_8 hg7_8 b7_8 h7_8
  have L92 := L91.trans h7_8
  have b7_8 : Blk w7_8 g7_8 33 (([(⟨3, 0, 2, 8, 21⟩ : Seat), (⟨9, 1, 0, 70, 0⟩ : Seat)]).map seatV).flatten.toArray := b7_8
  have o7_8 : OVec w7_8 w7_1.heap.size 33 seatV 5 (some ⟨g7_8, 0, none⟩) 2 2 ([(⟨3, 0, 2, 8, 21⟩ : Seat), (⟨9, 1, 0, 70, 0⟩ : Seat)]) := b7_8.ovec hg7_8 seatV_row rfl rfl (by decide)
  refine W.ef rfl rfl rfl ?_
  refine Ef.buildSliceV (len := 3) [_, _, _] Try.underlying41 el3 rfl (by simp [Value.cells]) rfl (by decide) (by decide) ?_
  intro g7_9 w7_9 hg7_9 b7_9 h7_9
  have L93 := L92.trans h7_9
  have b7_9 : Blk w7_9 g7_9 3 (([0, 1, 0]).map iv).flatten.toArray := b7_9
  have o7_9 : OVec w7_9 w7_8.heap.size 3 iv 1 (some ⟨g7_9, 0, none⟩) 3 3 ([0, 1, 0]) := b7_9.ovec hg7_9 iv_row rfl rfl (by decide)
  have f94 := (p6_24.le (h6_29.trans (h7_1.trans (h7_8.trans h7_9))))
  have f95 := (o7_1.le (h7_8.trans h7_9))
  have f96 := (o7_8.le h7_9)
  refine W.ef rfl rfl rfl ?_
  refine Ef.call go43 rfl rfl ((by have h := cut_led (s := s15) (co := 2) (cS := 2) (cf := 3) f94 f95.vec f96.vec o7_9.vec (by omega) (by omega) (by omega) (fun q h0 h1 h2 => (show ∀ g, rowOf (some ⟨g7_1, 0, none⟩) 2 = some g → ¬ F6_24 g from (fun g hg hF => by have := p6_24.lt hF; have := h6_29.size; have := (f95.row hg).1; omega)) q (rowOf_of h0 (by have := f95.cap; omega))) (fun q h0 h1 h2 => (show ∀ g, rowOf (some ⟨g7_8, 0, none⟩) 2 = some g → ¬ F6_24 g from (fun g hg hF => by have := p6_24.lt hF; have := h6_29.size; have := h7_1.size; have := (f96.row hg).1; omega)) q (rowOf_of h0 (by have := f96.cap; omega))) (fun q h0 h1 h2 => (show ∀ g, rowOf (some ⟨g7_9, 0, none⟩) 3 = some g → ¬ F6_24 g from (fun g hg hF => by have := p6_24.lt hF; have := h6_29.size; have := h7_1.size; have := h7_8.size; have := (o7_9.row hg).1; omega)) q (rowOf_of h0 (by have := o7_9.cap; omega))); rw [e19] at h; exact h)) ?_
  rintro _ w7_10 ⟨F7_10, rfl, p7_10, g7_10, h7_10⟩
  refine ⟨_, rfl, ?_⟩
  have L97 := L93.chP_then h7_10 (fun i hi => Nat.le_trans L1.size (f94.old hi))
  have f98 := (zq85.le (h6_29.trans (h7_1.trans (h7_8.trans h7_9))))
  have f99 := (zq86.le (h6_29.trans (h7_1.trans (h7_8.trans h7_9))))
  have f100 := (zq87.le (h6_29.trans (h7_1.trans (h7_8.trans h7_9))))
  have f101 := (zq88.le (h6_29.trans (h7_1.trans (h7_8.trans h7_9))))
  have f102 := (zq89.le (h6_29.trans (h7_1.trans (h7_8.trans h7_9))))
  have zq103n := (show ∀ g, rowOf (some ⟨g1_0, 0, none⟩) 3 = some g → ¬ F6_24 g from zq85g)
  have zq103 := f98.chP h7_10 zq103n
  have zq103g : ∀ g, rowOf (some ⟨g1_0, 0, none⟩) 3 = some g → ¬ F7_10 g := fun g hg hF => (g7_10 _ hF).elim (zq103n g hg) (fun hz => by have := (f98.row hg).2; omega)
  have zq104n := (show ∀ g, rowOf (some ⟨g2_7, 0, none⟩) 2 = some g → ¬ F6_24 g from zq86g)
  have zq104 := f99.chP h7_10 zq104n
  have zq104g : ∀ g, rowOf (some ⟨g2_7, 0, none⟩) 2 = some g → ¬ F7_10 g := fun g hg hF => (g7_10 _ hF).elim (zq104n g hg) (fun hz => by have := (f99.row hg).2; omega)
  have zq105n := (show ∀ g, rowOf (some ⟨g2_12, 0, none⟩) 1 = some g → ¬ F6_24 g from zq87g)
  have zq105 := f100.chP h7_10 zq105n
  have zq105g : ∀ g, rowOf (some ⟨g2_12, 0, none⟩) 1 = some g → ¬ F7_10 g := fun g hg hF => (g7_10 _ hF).elim (zq105n g hg) (fun hz => by have := (f100.row hg).2; omega)
  have zq106n := (show ∀ g, rowOf (some ⟨g6_10, 0, none⟩) 2 = some g → ¬ F6_24 g from zq88g)
  have zq106 := f101.chP h7_10 zq106n
  have zq106g : ∀ g, rowOf (some ⟨g6_10, 0, none⟩) 2 = some g → ¬ F7_10 g := fun g hg hF => (g7_10 _ hF).elim (zq106n g hg) (fun hz => by have := (f101.row hg).2; omega)
  have zq107n := (show ∀ g, rowOf (some ⟨g6_23, 0, none⟩) 2 = some g → ¬ F6_24 g from zq89g)
  have zq107 := f102.chP h7_10 zq107n
  have zq107g : ∀ g, rowOf (some ⟨g6_23, 0, none⟩) 2 = some g → ¬ F7_10 g := fun g hg hF => (g7_10 _ hF).elim (zq107n g hg) (fun hz => by have := (f102.row hg).2; omega)
  have zq108n := (show ∀ g, rowOf (some ⟨g7_1, 0, none⟩) 2 = some g → ¬ F6_24 g from (fun g hg hF => by have := p6_24.lt hF; have := h6_29.size; have := (f95.row hg).1; omega))
  have zq108 := f95.chP h7_10 zq108n
  have zq108g : ∀ g, rowOf (some ⟨g7_1, 0, none⟩) 2 = some g → ¬ F7_10 g := fun g hg hF => (g7_10 _ hF).elim (zq108n g hg) (fun hz => by have := (f95.row hg).2; omega)
  have zq109n := (show ∀ g, rowOf (some ⟨g7_8, 0, none⟩) 2 = some g → ¬ F6_24 g from (fun g hg hF => by have := p6_24.lt hF; have := h6_29.size; have := h7_1.size; have := (f96.row hg).1; omega))
  have zq109 := f96.chP h7_10 zq109n
  have zq109g : ∀ g, rowOf (some ⟨g7_8, 0, none⟩) 2 = some g → ¬ F7_10 g := fun g hg hF => (g7_10 _ hF).elim (zq109n g hg) (fun hz => by have := (f96.row hg).2; omega)
  have zq110n := (show ∀ g, rowOf (some ⟨g7_9, 0, none⟩) 3 = some g → ¬ F6_24 g from (fun g hg hF => by have := p6_24.lt hF; have := h6_29.size; have := h7_1.size; have := h7_8.size; have := (o7_9.row hg).1; omega))
  have zq110 := o7_9.chP h7_10 zq110n
  have zq110g : ∀ g, rowOf (some ⟨g7_9, 0, none⟩) 3 = some g → ¬ F7_10 g := fun g hg hF => (g7_10 _ hF).elim (zq110n g hg) (fun hz => by have := (o7_9.row hg).2; omega)
  refine W.any (.dec (.eql rfl rfl) (show _ = true from by decide)) rfl rfl rfl ?_
  refine W.any (.move rfl) rfl rfl rfl ?_
  refine W.rdg (Any.rd (.move rfl) _) rfl rfl rfl (rfl) rfl rfl ?_
  refine W.rdg (Any.rd (.buildA (cells := (pairV (⟨(-20), 30⟩ : Pair)).toArray) Try.underlying31 sz3 z31 rfl rfl) _) rfl rfl rfl (rfl) rfl rfl ?_
  refine W.rdg (Any.rd (.buildA (cells := (pairV (⟨2, 0⟩ : Pair)).toArray) Try.underlying31 sz3 z31 rfl rfl) _) rfl rfl rfl (rfl) rfl rfl ?_
  refine W.efg rfl rfl rfl (rfl) rfl rfl ?_
  refine Ef.call go44 rfl rfl ((by have h := splice_led (s := s19) 9 (⟨(-20), 30⟩ : Pair) (⟨2, 0⟩ : Pair) (by intro k hk; have : k = 0 ∨ k = 1 := (by omega); rcases this with rfl | rfl <;> simp [Pair.ix]) p7_10; rw [e20] at h; exact h)) ?_
  rintro _ w7_16 ⟨F7_16, rfl, p7_16, g7_16, h7_16⟩
  refine ⟨_, rfl, ?_⟩
  have L111 := L97.chP_then h7_16 (fun i hi => Nat.le_trans L1.size (p7_10.old hi))
  have zq112n := (show ∀ g, rowOf (some ⟨g1_0, 0, none⟩) 3 = some g → ¬ F7_10 g from zq103g)
  have zq112 := zq103.chP h7_16 zq112n
  have zq112g : ∀ g, rowOf (some ⟨g1_0, 0, none⟩) 3 = some g → ¬ F7_16 g := fun g hg hF => (g7_16 _ hF).elim (zq112n g hg) (fun hz => by have := (zq103.row hg).2; omega)
  have zq113n := (show ∀ g, rowOf (some ⟨g2_7, 0, none⟩) 2 = some g → ¬ F7_10 g from zq104g)
  have zq113 := zq104.chP h7_16 zq113n
  have zq113g : ∀ g, rowOf (some ⟨g2_7, 0, none⟩) 2 = some g → ¬ F7_16 g := fun g hg hF => (g7_16 _ hF).elim (zq113n g hg) (fun hz => by have := (zq104.row hg).2; omega)
  have zq114n := (show ∀ g, rowOf (some ⟨g2_12, 0, none⟩) 1 = some g → ¬ F7_10 g from zq105g)
  have zq114 := zq105.chP h7_16 zq114n
  have zq114g : ∀ g, rowOf (some ⟨g2_12, 0, none⟩) 1 = some g → ¬ F7_16 g := fun g hg hF => (g7_16 _ hF).elim (zq114n g hg) (fun hz => by have := (zq105.row hg).2; omega)
  have zq115n := (show ∀ g, rowOf (some ⟨g6_10, 0, none⟩) 2 = some g → ¬ F7_10 g from zq106g)
  have zq115 := zq106.chP h7_16 zq115n
  have zq115g : ∀ g, rowOf (some ⟨g6_10, 0, none⟩) 2 = some g → ¬ F7_16 g := fun g hg hF => (g7_16 _ hF).elim (zq115n g hg) (fun hz => by have := (zq106.row hg).2; omega)
  have zq116n := (show ∀ g, rowOf (some ⟨g6_23, 0, none⟩) 2 = some g → ¬ F7_10 g from zq107g)
  have zq116 := zq107.chP h7_16 zq116n
  have zq116g : ∀ g, rowOf (some ⟨g6_23, 0, none⟩) 2 = some g → ¬ F7_16 g := fun g hg hF => (g7_16 _ hF).elim (zq116n g hg) (fun hz => by have := (zq107.row hg).2; omega)
  have zq117n := (show ∀ g, rowOf (some ⟨g7_1, 0, none⟩) 2 = some g → ¬ F7_10 g from zq108g)
  have zq117 := zq108.chP h7_16 zq117n
  have zq117g : ∀ g, rowOf (some ⟨g7_1, 0, none⟩) 2 = some g → ¬ F7_16 g := fun g hg hF => (g7_16 _ hF).elim (zq117n g hg) (fun hz => by have := (zq108.row hg).2; omega)
  have zq118n := (show ∀ g, rowOf (some ⟨g7_8, 0, none⟩) 2 = some g → ¬ F7_10 g from zq109g)
  have zq118 := zq109.chP h7_16 zq118n
  have zq118g : ∀ g, rowOf (some ⟨g7_8, 0, none⟩) 2 = some g → ¬ F7_16 g := fun g hg hF => (g7_16 _ hF).elim (zq118n g hg) (fun hz => by have := (zq109.row hg).2; omega)
  have zq119n := (show ∀ g, rowOf (some ⟨g7_9, 0, none⟩) 3 = some g → ¬ F7_10 g from zq110g)
  have zq119 := zq110.chP h7_16 zq119n
  have zq119g : ∀ g, rowOf (some ⟨g7_9, 0, none⟩) 3 = some g → ¬ F7_16 g := fun g hg hF => (g7_16 _ hF).elim (zq119n g hg) (fun hz => by have := (zq110.row hg).2; omega)
  refine W.rdg (Any.rd (.dec (.eql rfl rfl) (show _ = true from by decide)) _) rfl rfl rfl (rfl) rfl rfl ?_
  refine W.any (.pickT rfl rfl rfl) rfl rfl rfl ?_
  refine W.any (.move rfl) rfl rfl rfl ?_
  refine W.rdg (Any.rd (.move rfl) _) rfl rfl rfl (rfl) rfl rfl ?_
  refine W.efg rfl rfl rfl (rfl) rfl rfl ?_
  refine Ef.call go16 rfl rfl ((by have h := own_led (s := s20) 1 p7_16; rw [e21] at h; exact h)) ?_
  rintro _ w7_21 ⟨rfl, h7_21⟩
  refine ⟨_, rfl, ?_⟩
  have L120 := L111.trans h7_21
  refine W.rdg (Any.rd (.dec (.eql rfl rfl) (show _ = true from by decide)) _) rfl rfl rfl (rfl) rfl rfl ?_
  refine W.any (.pickT rfl rfl rfl) rfl rfl rfl ?_
  refine W.any (.move rfl) rfl rfl rfl ?_
  refine W.rdg (Any.rd (.move rfl) _) rfl rfl rfl (rfl) rfl rfl ?_
  have f121 := (p7_16.le h7_21)
  refine W.efg rfl rfl rfl (rfl) rfl rfl ?_
  refine Ef.call go16 rfl rfl ((by have h := own_led (s := s20) 0 f121; rw [e22] at h; exact h)) ?_
  rintro _ w7_26 ⟨rfl, h7_26⟩
  refine ⟨_, rfl, ?_⟩
  have L122 := L120.trans h7_26
  refine W.rdg (Any.rd (.dec (.eql rfl rfl) (show _ = true from by decide)) _) rfl rfl rfl (rfl) rfl rfl ?_
  refine W.any (.pickT rfl rfl rfl) rfl rfl rfl ?_
  refine W.any (.assign rfl) rfl rfl rfl ?_
  refine W.nil ?_
  refine E.thenN ?_
  refine WC.seq ?_
  refine WC.region ?_
  refine W.any (.move rfl) rfl rfl rfl ?_
  have f123 := (f121.le h7_26)
  refine W.ef rfl rfl rfl ?_
  refine Ef.call go14 rfl rfl ((by have h := seat_led (s := s20) 9 f123; rw [f1, f2] at h; exact h)) ?_
  rintro _ w8_1 ⟨rfl, h8_1⟩
  refine ⟨_, rfl, ?_⟩
  have L124 := L122.trans h8_1
  refine W.any (.move rfl) rfl rfl rfl ?_
  refine W.any (.extract (v := .agg (seatV (⟨9, 1, 0, 50, 30⟩ : Seat)).toArray) rfl rfl) rfl rfl rfl ?_
  refine W.any (.extract (v := .bool true) rfl rfl) rfl rfl rfl ?_
  refine W.ef rfl rfl rfl ?_
  refine Ef.allocA z33 ?_
  intro g8_5 w8_5 hg8_5 b8_5 h8_5
  have L125 := L124.trans h8_5
  have b8_5 : Blk w8_5 g8_5 33 (seatV noSeat).toArray := b8_5
  refine W.ef0 rfl rfl ?_
  refine Ef.storeAll sz33 (by rfl) rfl rfl b8_5 (by rfl) (seatV_row.one (⟨9, 1, 0, 50, 30⟩ : Seat)) ?_
  intro w8_6 b8_6 h8_6
  have b8_6 : Blk w8_6 g8_5 33 (seatV (⟨9, 1, 0, 50, 30⟩ : Seat)).toArray := b8_6
  have L126 : Le w w8_6 := L125.then_ h8_6 (fun q hq => by cases hq; exact Nat.le_trans L124.size hg8_5)
  refine W.any (.assign rfl) rfl rfl rfl ?_
  refine W.nil ?_
  refine E.thenN ?_
  refine WC.seq ?_
  refine WC.region ?_
  refine W.any (.move rfl) rfl rfl rfl ?_
  refine W.any (.move rfl) rfl rfl rfl ?_
  refine W.rdg (Any.rd (.move rfl) _) rfl rfl rfl (rfl) rfl rfl ?_
  refine W.any (.pickT rfl rfl rfl) rfl rfl rfl ?_
  refine W.any (.move rfl) rfl rfl rfl ?_
  refine W.rdg (Any.rd (.move rfl) _) rfl rfl rfl (rfl) rfl rfl ?_
  refine W.any (.pickT rfl rfl rfl) rfl rfl rfl ?_
  refine W.any (.move rfl) rfl rfl rfl ?_
  refine W.rdg (Any.rd (.move rfl) _) rfl rfl rfl (rfl) rfl rfl ?_
  refine W.any (.pickT rfl rfl rfl) rfl rfl rfl ?_
  refine W.any (.move rfl) rfl rfl rfl ?_
  refine W.rdg (Any.rd (.move rfl) _) rfl rfl rfl (rfl) rfl rfl ?_
  refine W.any (.pickT rfl rfl rfl) rfl rfl rfl ?_
  refine W.any (.move rfl) rfl rfl rfl ?_
  refine W.rdg (Any.rd (.field0 fa33_2 rfl) _) rfl rfl rfl (rfl) rfl rfl ?_
  refine W.rdg (.bpart [.int .i64 ((⟨9, 1, 0, 50, 30⟩ : Seat).h0), .int .i64 ((⟨9, 1, 0, 50, 30⟩ : Seat).h1)] ag31 rfl (by decide) rfl b8_6 rfl) rfl rfl rfl (rfl) rfl rfl ?_
  refine W.rdg (Any.rd (.buildA (cells := (pairV (⟨50, 30⟩ : Pair)).toArray) Try.underlying31 sz3 z31 rfl rfl) _) rfl rfl rfl (rfl) rfl rfl ?_
  refine W.rdg (Any.rd (.dec (.eqA eg31 rfl rfl (eqv_pairV (d := 9998) (⟨(⟨9, 1, 0, 50, 30⟩ : Seat).h0, (⟨9, 1, 0, 50, 30⟩ : Seat).h1⟩ : Pair) (⟨50, 30⟩ : Pair))) (show _ = true from by decide)) _) rfl rfl rfl (rfl) rfl rfl ?_
  refine W.any (.pickT rfl rfl rfl) rfl rfl rfl ?_
  refine W.any (.move rfl) rfl rfl rfl ?_
  refine W.rdg (Any.rd (.move rfl) _) rfl rfl rfl (rfl) rfl rfl ?_
  have f127 := ((f123.le (h8_1.trans h8_5)).ch h8_6 (fun q hqq hF => by cases hqq; have := f123.lt hF; have := h8_1.size; have := hg8_5; omega))
  refine W.efg rfl rfl rfl (rfl) rfl rfl ?_
  refine Ef.call go23 rfl rfl ((by have h := seats_led (s := s20) f127; rw [f3] at h; exact h)) ?_
  rintro _ w9_21 ⟨A9_21, c9_21, rfl, o9_21, h9_21⟩
  refine ⟨_, rfl, ?_⟩
  have L128 := L126.trans h9_21
  refine W.rdg (.len Try.underlying50 rfl) rfl rfl rfl (rfl) rfl rfl ?_
  refine W.rdg (Any.rd (.dec (.eql rfl rfl) (show _ = true from by decide)) _) rfl rfl rfl (rfl) rfl rfl ?_
  refine W.any (.pickT rfl rfl rfl) rfl rfl rfl ?_
  refine W.any (.move rfl) rfl rfl rfl ?_
  refine W.rdg (Any.rd (.move rfl) _) rfl rfl rfl (rfl) rfl rfl ?_
  have f129 := (f127.le h9_21)
  refine W.efg rfl rfl rfl (rfl) rfl rfl ?_
  refine Ef.call go20 rfl rfl ((by have h := total_led (s := s20) f129; rw [f4] at h; exact h)) ?_
  rintro _ w9_27 ⟨rfl, h9_27⟩
  refine ⟨_, rfl, ?_⟩
  have L130 := L128.trans h9_27
  refine W.rdg (Any.rd (.move rfl) _) rfl rfl rfl (rfl) rfl rfl ?_
  have f131 := (f129.le h9_27)
  refine W.efg rfl rfl rfl (rfl) rfl rfl ?_
  refine Ef.call go17 rfl rfl ((by have h := lost_led (s := s20) f131; rw [f5] at h; exact h)) ?_
  rintro _ w9_29 ⟨rfl, h9_29⟩
  refine ⟨_, rfl, ?_⟩
  have L132 := L130.trans h9_29
  refine W.rdg (Any.rd (.add rfl rfl (by omega)) _) rfl rfl rfl (rfl) rfl rfl ?_
  refine W.rdg (Any.rd (.dec (.eql rfl rfl) (show _ = true from by decide)) _) rfl rfl rfl (rfl) rfl rfl ?_
  refine W.any (.pickT rfl rfl rfl) rfl rfl rfl ?_
  refine W.any (.move rfl) rfl rfl rfl ?_
  refine W.rdg (Any.rd (.move rfl) _) rfl rfl rfl (rfl) rfl rfl ?_
  have f133 := (f131.le h9_29)
  refine W.efg rfl rfl rfl (rfl) rfl rfl ?_
  refine Ef.call go17 rfl rfl ((by have h := lost_led (s := s20) f133; rw [f5] at h; exact h)) ?_
  rintro _ w9_35 ⟨rfl, h9_35⟩
  refine ⟨_, rfl, ?_⟩
  have L134 := L132.trans h9_35
  refine W.rdg (Any.rd (.dec (.eql rfl rfl) (show _ = true from by decide)) _) rfl rfl rfl (rfl) rfl rfl ?_
  refine W.any (.pickT rfl rfl rfl) rfl rfl rfl ?_
  refine W.any (.assign rfl) rfl rfl rfl ?_
  refine W.nil ?_
  refine E.thenN ?_
  refine WC.ret ?_
  refine E.retG1 rfl rfl ?_
  exact ⟨rfl, L134⟩
end Go.Proofs.Ytnmcbdbpafhinaa

namespace Go.Proofs.Ytnmcbdbpafhinaa
open Go Go.Sx Go.Num Go.Gsp Go.Lsp
set_option maxRecDepth 20000
set_option linter.unusedSimpArgs false
set_option linter.unusedVariables false
theorem fill_all {ys : List Int} (hl : ys.length = 12) (h : ∀ j, j < 12 → ys.getD j 0 = 35184372088832) : ys = List.replicate 12 c45 := by
  apply List.ext_getElem (by simp [hl])
  intro j h1 h2
  have := h j (by omega)
  rw [List.getElem_replicate]
  simpa [List.getD, h1, c45] using this
theorem LedgerWays_ok (a x : Int) {A : Option Addr} {n c : Nat} {xs : List Gsp.Edge} (w : World) (hV : Vec w edgeV 9 A n xs) : Calls Try.prog 10 #[.slice A n c, .int .i64 (a), .int .i64 (x)] w fun r w' => r = .returned (.bool true) ∧ Le w w' := by
  have hl := hV.1
  refine enter Try.func10 rfl rfl ?_
  have L0 := Le.refl w
  refine WC.seq ?_
  refine WC.region ?_
  refine W.any (.assign rfl) rfl rfl rfl ?_
  refine W.nil ?_
  refine E.thenN ?_
  refine WC.seq ?_
  refine WC.region ?_
  refine W.ef rfl rfl rfl ?_
  refine Ef.call go11 rfl rfl (small46_ok w) ?_
  rintro _ w1_0 ⟨rfl, h1_0⟩
  refine ⟨_, rfl, ?_⟩
  have L1 := L0.trans h1_0
  refine W.any (.assign rfl) rfl rfl rfl ?_
  refine W.nil ?_
  refine E.thenN ?_
  refine WC.seq ?_
  refine WC.seq ?_
  refine WC.region ?_
  refine W.any (.move rfl) rfl rfl rfl ?_
  refine W.rd (.len Try.underlying82 rfl) rfl rfl rfl ?_
  refine W.any (.gtr rfl rfl) rfl rfl rfl ?_
  by_cases q2_3 : 8 < ((n : Nat) : Int)
  · refine W.any (.dec (.move rfl) (decide_eq_true q2_3)) rfl rfl rfl ?_
    refine W.skip rfl rfl rfl (rfl) rfl rfl ?_
    refine W.skip rfl rfl rfl (rfl) rfl rfl ?_
    refine W.any (.pickT rfl rfl rfl) rfl rfl rfl ?_
    refine W.nil ?_
    refine E.thenN ?_
    refine WC.condT rfl ?_
    refine WC.seq ?_
    refine WC.region ?_
    refine W.any (.move rfl) rfl rfl rfl ?_
    refine W.any (.assign rfl) rfl rfl rfl ?_
    refine W.nil ?_
    refine E.thenN ?_
    refine WC.ret ?_
    refine E.thenR ?_
    refine E.retG1 rfl rfl ?_
    exact ⟨rfl, L1⟩
  · refine W.any (.dec (.move rfl) (decide_eq_false q2_3)) rfl rfl rfl ?_
    refine W.rdg (Any.rd (.move rfl) _) rfl rfl rfl (rfl) rfl rfl ?_
    refine W.rdg (Any.rd (.gtr rfl rfl) _) rfl rfl rfl (rfl) rfl rfl ?_
    refine W.any (.pickF rfl rfl rfl) rfl rfl rfl ?_
    refine W.nil ?_
    refine E.thenN ?_
    by_cases c0 : 1099511627776 < a
    · refine WC.condY rfl (decide_eq_true c0) ?_
      refine WC.seq ?_
      refine WC.region ?_
      refine W.any (.move rfl) rfl rfl rfl ?_
      refine W.any (.assign rfl) rfl rfl rfl ?_
      refine W.nil ?_
      refine E.thenN ?_
      refine WC.ret ?_
      refine E.thenR ?_
      refine E.retG1 rfl rfl ?_
      exact ⟨rfl, L1⟩
    · refine WC.condN rfl (decide_eq_false c0) ?_
      refine WC.skip ?_
      refine E.thenN ?_
      refine WC.seq ?_
      refine WC.region ?_
      refine W.any (.move rfl) rfl rfl rfl ?_
      refine W.any (.move rfl) rfl rfl rfl ?_
      refine W.any (.move rfl) rfl rfl rfl ?_
      refine W.ef rfl rfl rfl ?_
      refine Ef.call go39 rfl rfl (cost_ok a x w1_0 (hV.le L1) (by omega)) ?_
      rintro _ w4_3 ⟨Aa4_3, ca4_3, Ab4_3, cb4_3, rfl, oa4_3, ob4_3, h4_3⟩
      refine ⟨_, rfl, ?_⟩
      have L2 := L1.trans h4_3
      have hcsC := fun h => @costs_of a x xs h
      have hcbC := @costG_bad xs a x
      generalize hgenC : costG xs a x = C at *
      refine W.any (.move rfl) rfl rfl rfl ?_
      refine W.any (.extract (v := .slice Aa4_3 C.1.length ca4_3) rfl rfl) rfl rfl rfl ?_
      refine W.any (.extract (v := .slice Ab4_3 C.2.1.length cb4_3) rfl rfl) rfl rfl rfl ?_
      refine W.any (.extract (v := .int .i64 (C.2.2)) rfl rfl) rfl rfl rfl ?_
      refine W.any (.assign rfl) rfl rfl rfl ?_
      refine W.any (.assign rfl) rfl rfl rfl ?_
      refine W.any (.assign rfl) rfl rfl rfl ?_
      refine W.nil ?_
      refine E.thenN ?_
      refine WC.seq ?_
      refine WC.region ?_
      refine W.ef rfl rfl rfl ?_
      refine Ef.vmake 0 12 Try.underlying41 el3 iv_row rfl rfl (rfl) rfl (rfl) (by omega) (by unfold maxLen; omega) ?_
      intro g5_0 w5_0 hg5_0 o5_0 h5_0
      have L3 := L2.trans h5_0
      refine W.any (.assign rfl) rfl rfl rfl ?_
      refine W.nil ?_
      refine E.thenN ?_
      refine WC.seq ?_
      refine WC.seq ?_
      refine WC.region ?_
      refine W.any (.assign rfl) rfl rfl rfl ?_
      refine W.nil ?_
      refine E.thenN ?_
      refine WC.block ?_
      have f4 := (oa4_3.le h5_0)
      refine WC.loop (ι := Nat × (List Int)) (fun ⟨k, ys⟩ => [(0, .slice A n c), (1, .int .i64 (a)), (7, .bool true), (8, .slice Aa4_3 C.1.length ca4_3), (10, .int .i64 (C.2.2)), (11, .slice (some ⟨g5_0, 0, none⟩) 12 12), (12, .int .i64 (((k : Nat) : Int)))]) (fun ⟨k, ys⟩ wl0 => (k ≤ 12) ∧ (ys.length = 12) ∧ (∀ j, j < k → ys.getD j 0 = 35184372088832) ∧ Le w wl0 ∧ w5_0.heap.size ≤ wl0.heap.size ∧ OVec wl0 w1_0.heap.size 3 iv 1 Aa4_3 C.1.length ca4_3 C.1 ∧ OVec wl0 w4_3.heap.size 3 iv 1 (some ⟨g5_0, 0, none⟩) 12 12 ys) (fun ⟨k, ys⟩ => 12 - k) (0, (List.replicate 12 0)) ?_ ?_ ?_
      · exact .cons rfl (.cons rfl (.cons rfl (.cons rfl (.cons rfl (.cons rfl (.cons rfl (.nil _)))))))
      · exact ⟨Nat.zero_le _, by simp, fun j hj => by omega, L3, Nat.le_refl _, f4, o5_0⟩
      · rintro ⟨k, ys⟩ wl0 ⟨hk, hyl, hya, Ll0, zl0, f0_0, f0_1⟩
        have lb0_2 : w1_0.heap.size ≤ wl0.heap.size := by have := h4_3.size; have := h5_0.size; omega
        have lb0_4 : w4_3.heap.size ≤ wl0.heap.size := by have := h5_0.size; omega
        refine WC.seq ?_
        refine WC.seq ?_
        refine WC.region ?_
        refine W.any (.move rfl) rfl rfl rfl ?_
        refine W.any (.lss rfl rfl) rfl rfl rfl ?_
        refine W.nil ?_
        refine E.thenN ?_
        by_cases c1 : ((k : Nat) : Int) < 12
        · refine WC.condY rfl (decide_eq_true c1) ?_
          refine WC.skip ?_
          refine E.thenN ?_
          refine WC.seq ?_
          refine WC.block ?_
          refine WC.region ?_
          refine W.any (.move rfl) rfl rfl rfl ?_
          refine W.any (.move rfl) rfl rfl rfl ?_
          refine W.any (.idxS (k) Try.underlying41 sz3 rfl rfl (o5_0.vec.isSome iv_row (by omega)) (rfl) (by omega)) rfl rfl rfl ?_
          refine W.ef0 rfl rfl ?_
          refine Ef.vset (j := k) (o := 0) 35184372088832 sz3 rfl (by omega) rfl f0_1 iv_row (getS ys 0 (by omega)) (by decide) rfl rfl ?_
          intro w9_3 o9_3 h9_3
          have L5 : Le w w9_3 := Ll0.then_ h9_3 (fun q hq => Nat.le_trans L2.size (f0_1.row hq).1)
          refine W.nil ?_
          refine E.blkN ?_
          refine E.thenN ?_
          refine WC.region ?_
          refine W.any (.move rfl) rfl rfl rfl ?_
          refine W.any (.add rfl rfl (by omega)) rfl rfl rfl ?_
          refine W.any (.assign rfl) rfl rfl rfl ?_
          refine W.nil ?_
          have f6 := (f0_0.ch h9_3 ((Apart.symm (fun q h1 h2 => by have := (oa4_3.row h1).2; have := (f0_1.row h2).1; omega))))
          refine E.again (k + 1, (ys.set k 35184372088832)) (.cons rfl (.cons rfl (.cons rfl (.cons rfl (.cons rfl (.cons rfl (.cons rfl (.nil _)))))))) ?_ ?_
          · exact ⟨by omega, by simp [hyl], fun j hj => by rw [set_at]; split; rfl; exact hya j (by omega), L5, by have := zl0; have := h9_3.size; omega, f6, o9_3⟩
          · first | omega | (simp only []; omega)
        · refine WC.condN rfl (decide_eq_false c1) ?_
          have hys := fill_all hyl (fun j hj => hya j (by omega))
          refine WC.exit ?_
          refine E.thenX ?_
          refine E.thenX ?_
          refine E.blkH ?_
          refine E.thenN ?_
          refine WC.seq ?_
          refine WC.region ?_
          refine W.any (.move rfl) rfl rfl rfl ?_
          refine W.ef rfl rfl rfl ?_
          refine Ef.call go18 rfl rfl (new_led wl0 f0_1.vec (by rw [hys]; decide)) ?_
          rintro _ w10_1 ⟨gp10_1, F10_1, rfl, p10_1, h10_1⟩
          refine ⟨_, rfl, ?_⟩
          have L7 := Ll0.trans h10_1
          rw [hys] at p10_1
          refine W.any (.assign rfl) rfl rfl rfl ?_
          refine W.nil ?_
          refine E.thenN ?_
          refine WC.seq ?_
          refine WC.seq ?_
          refine WC.region ?_
          refine W.any (.move rfl) rfl rfl rfl ?_
          refine W.any (.dec (.isNilP (by kernel_rfl) rfl) rfl) rfl rfl rfl ?_
          refine W.nil ?_
          refine E.thenN ?_
          refine WC.condF rfl ?_
          refine WC.skip ?_
          refine E.thenN ?_
          refine WC.seq ?_
          refine WC.seq ?_
          refine WC.region ?_
          refine W.any (.move rfl) rfl rfl rfl ?_
          refine W.any (.neq rfl rfl) rfl rfl rfl ?_
          refine W.nil ?_
          refine E.thenN ?_
          by_cases c3 : C.2.2 ≠ 0
          · refine WC.condY rfl (decide_eq_true c3) ?_
            refine WC.seq ?_
            refine WC.region ?_
            refine W.any (.move rfl) rfl rfl rfl ?_
            refine W.any (.assign rfl) rfl rfl rfl ?_
            refine W.nil ?_
            refine E.thenN ?_
            refine WC.ret ?_
            refine E.thenR ?_
            refine E.retG1 rfl rfl ?_
            exact ⟨rfl, L7⟩
          · refine WC.condN rfl (decide_eq_false c3) ?_
            have hcs := hcsC (Decidable.not_not.1 c3)
            have hlS := hcs.lenS
            have hwl := hcs.len
            refine WC.skip ?_
            refine E.thenN ?_
            refine WC.seq ?_
            refine WC.region ?_
            refine W.any (.assign rfl) rfl rfl rfl ?_
            refine W.nil ?_
            refine E.thenN ?_
            refine WC.seq ?_
            refine WC.seq ?_
            refine WC.region ?_
            refine W.any (.assign rfl) rfl rfl rfl ?_
            refine W.nil ?_
            refine E.thenN ?_
            refine WC.block ?_
            have f8 := (f0_0.le h10_1)
            refine WC.loop (ι := Nat × (Option Addr) × Nat × (Nat → Prop)) (fun ⟨k, Al, cl, F⟩ => [(0, .slice A n c), (1, .int .i64 (a)), (7, .bool true), (8, .slice Aa4_3 C.1.length ca4_3), (13, .pointer (some ⟨gp10_1, 0, none⟩)), (14, .slice Al k cl), (15, .int .i64 (((k : Nat) : Int)))]) (fun ⟨k, Al, cl, F⟩ wl1 => (k ≤ n) ∧ (∀ j, j < k → C.1.getD j 0 ≤ 17592186044416) ∧ Le w wl1 ∧ w10_1.heap.size ≤ wl1.heap.size ∧ OVec wl1 w1_0.heap.size 3 iv 1 Aa4_3 C.1.length ca4_3 C.1 ∧ LPool wl1 wl0.heap.size gp10_1 F (wayL xs C.1 k) ∧ OVec wl1 w10_1.heap.size 37 legV 3 Al k cl (legsW C.1 k) ∧ (∀ q, rowOf Al cl = some q → ¬ F q)) (fun ⟨k, Al, cl, F⟩ => n - k) (0, none, 0, F10_1) ?_ ?_ ?_
            · exact .cons rfl (.cons rfl (.cons rfl (.cons rfl (.cons rfl (.cons rfl (.cons rfl (.nil _)))))))
            · exact ⟨Nat.zero_le _, fun j hj => by omega, L7, Nat.le_refl _, f8, p10_1, (OVec.nil w10_1 w10_1.heap.size 37 legV 3 none), (fun q hq => by simp [rowOf] at hq)⟩
            · rintro ⟨k, Al, cl, F⟩ wl1 ⟨hk, hS, Ll1, zl1, f1_0, f1_1, f1_2, po1_0⟩
              have lb1_2 : w1_0.heap.size ≤ wl1.heap.size := Nat.le_trans lb0_2 (by have := h10_1.size; omega)
              have lb1_6 : w10_1.heap.size ≤ wl1.heap.size := by omega
              refine WC.seq ?_
              refine WC.seq ?_
              refine WC.region ?_
              refine W.any (.move rfl) rfl rfl rfl ?_
              refine W.any (.move rfl) rfl rfl rfl ?_
              refine W.rd (.len Try.underlying82 rfl) rfl rfl rfl ?_
              refine W.any (.lss rfl rfl) rfl rfl rfl ?_
              refine W.nil ?_
              refine E.thenN ?_
              by_cases c4 : ((k : Nat) : Int) < ((n : Nat) : Int)
              · refine WC.condY rfl (decide_eq_true c4) ?_
                refine WC.skip ?_
                refine E.thenN ?_
                refine WC.seq ?_
                refine WC.block ?_
                refine WC.seq ?_
                refine WC.seq ?_
                refine WC.region ?_
                refine W.any (.move rfl) rfl rfl rfl ?_
                refine W.any (.move rfl) rfl rfl rfl ?_
                refine W.rd (.len Try.underlying41 rfl) rfl rfl rfl ?_
                refine W.any (.dec (.geq rfl rfl) (decide_eq_false (by omega))) rfl rfl rfl ?_
                refine W.any (.move rfl) rfl rfl rfl ?_
                refine W.rdg (Any.rd (.move rfl) _) rfl rfl rfl (rfl) rfl rfl ?_
                refine W.rdg (Any.rd (.move rfl) _) rfl rfl rfl (rfl) rfl rfl ?_
                refine W.rdg (Any.rd (.idxS (k) Try.underlying41 sz3 rfl rfl (oa4_3.vec.isSome iv_row (by omega)) (rfl) (by omega)) _) rfl rfl rfl (rfl) rfl rfl ?_
                refine W.rdg (.vone (v := .int .i64 ((C.1.getD k 0))) na3 rfl f1_0.vec iv_row (getS C.1 0 (by first | omega | (simp only [List.length_cons, List.length_nil]; omega))) rfl) rfl rfl rfl (rfl) rfl rfl ?_
                refine W.rdg (Any.rd (.gtr rfl rfl) _) rfl rfl rfl (rfl) rfl rfl ?_
                refine W.any (.pickF rfl rfl rfl) rfl rfl rfl ?_
                refine W.nil ?_
                refine E.thenN ?_
                by_cases c5 : 17592186044416 < (C.1.getD k 0)
                · refine WC.condY rfl (decide_eq_true c5) ?_
                  refine WC.seq ?_
                  refine WC.region ?_
                  refine W.any (.move rfl) rfl rfl rfl ?_
                  refine W.any (.move rfl) rfl rfl rfl ?_
                  refine W.rdg (Any.rd (.move rfl) _) rfl rfl rfl (rfl) rfl rfl ?_
                  refine W.rdg (Any.rd (.move rfl) _) rfl rfl rfl (rfl) rfl rfl ?_
                  refine W.rdg (.len Try.underlying41 rfl) rfl rfl rfl (rfl) rfl rfl ?_
                  refine W.rdg (Any.rd (.dec (.lss rfl rfl) (decide_eq_true (by omega))) _) rfl rfl rfl (rfl) rfl rfl ?_
                  refine W.any (.pickT rfl rfl rfl) rfl rfl rfl ?_
                  refine W.any (.assign rfl) rfl rfl rfl ?_
                  refine W.nil ?_
                  refine E.thenN ?_
                  refine WC.ret ?_
                  refine E.thenR ?_
                  refine E.blkR ?_
                  refine E.thenR ?_
                  refine E.thenR ?_
                  refine E.blkR ?_
                  refine E.thenR ?_
                  refine E.retG1 rfl rfl ?_
                  exact ⟨rfl, Ll1⟩
                · refine WC.condN rfl (decide_eq_false c5) ?_
                  refine WC.skip ?_
                  refine E.thenN ?_
                  refine WC.seq ?_
                  refine WC.draw [0, 1, 2, 3, 4, 5, 6, 7, 8, 9, 10, 11, 12, 13, 14, 15, 16, 17, 18, 19, 20] mixed (by kernel_rfl) ?_
                  intro w21 d21
                  have L9 := Ll1.trans d21
                  refine G.any rfl rfl (.move rfl) rfl rfl rfl ?_
                  refine G.any rfl rfl (.move rfl) rfl rfl rfl ?_
                  refine G.any rfl rfl (.move rfl) rfl rfl rfl ?_
                  refine G.any rfl rfl (.move rfl) rfl rfl rfl ?_
                  refine G.any rfl rfl (.idxS (k) Try.underlying82 sz70 rfl rfl (hV.isSome edgeV_row (by omega)) (rfl) (by omega)) rfl rfl rfl ?_
                  refine G.any rfl rfl (.vfield fa70_0 (hV.isSome edgeV_row (by omega)) rfl) rfl rfl rfl ?_
                  refine G.rd rfl rfl (.vcell (j := k) (o := 0) (v := .int .i64 ((xs.getD k noEdge).f)) na3 rfl (hV.le L9) edgeV_row (getS xs noEdge (by first | omega | (simp only [List.length_cons, List.length_nil]; omega))) rfl) rfl rfl rfl ?_
                  refine G.any rfl rfl (.move rfl) rfl rfl rfl ?_
                  refine G.any rfl rfl (.move rfl) rfl rfl rfl ?_
                  refine G.any rfl rfl (.idxS (k) Try.underlying82 sz70 rfl rfl (hV.isSome edgeV_row (by omega)) (rfl) (by omega)) rfl rfl rfl ?_
                  refine G.any rfl rfl (.vfield fa70_1 (hV.isSome edgeV_row (by omega)) rfl) rfl rfl rfl ?_
                  refine G.rd rfl rfl (.vcell (j := k) (o := 1) (v := .int .i64 ((xs.getD k noEdge).t)) na3 rfl (hV.le L9) edgeV_row (getS xs noEdge (by first | omega | (simp only [List.length_cons, List.length_nil]; omega))) rfl) rfl rfl rfl ?_
                  refine G.any rfl rfl (.buildA (cells := (pairV (⟨(xs.getD k noEdge).f, (xs.getD k noEdge).t⟩ : Pair)).toArray) Try.underlying31 sz3 z31 rfl rfl) rfl rfl rfl ?_
                  refine G.any rfl rfl (.move rfl) rfl rfl rfl ?_
                  refine G.any rfl rfl (.move rfl) rfl rfl rfl ?_
                  refine G.any rfl rfl (.idxS (k) Try.underlying41 sz3 rfl rfl (oa4_3.vec.isSome iv_row (by omega)) (rfl) (by omega)) rfl rfl rfl ?_
                  have f10 := (f1_0.le d21)
                  refine G.rd rfl rfl (.vone (v := .int .i64 ((C.1.getD k 0))) na3 rfl f10.vec iv_row (getS C.1 0 (by first | omega | (simp only [List.length_cons, List.length_nil]; omega))) rfl) rfl rfl rfl ?_
                  refine G.any rfl rfl (.buildA (cells := (pairV (⟨(C.1.getD k 0), 0⟩ : Pair)).toArray) Try.underlying31 sz3 z31 rfl rfl) rfl rfl rfl ?_
                  refine G.any rfl rfl (.buildP (seatV (⟨((k : Nat) : Int), (xs.getD k noEdge).f, (xs.getD k noEdge).t, (C.1.getD k 0), 0⟩ : Seat)) pl33 z33 rfl rfl) rfl rfl rfl ?_
                  have f11 := (f1_1.le d21)
                  refine G.ef rfl rfl rfl rfl rfl ?_
                  refine Ef.call go40 rfl rfl ((by have h := open_led (s := (wayL xs C.1 k)) (⟨((k : Nat) : Int), (xs.getD k noEdge).f, (xs.getD k noEdge).t, (C.1.getD k 0), 0⟩ : Seat) 0 f11; rw [way_open hcs (show k < xs.length by omega) (by omega)] at h; exact h)) ?_
                  rintro _ w21_19 ⟨F21_19, rfl, p21_19, g21_19, h21_19⟩
                  refine ⟨_, rfl, ?_⟩
                  refine ⟨fun h => absurd h (ne_true_of_eq_false (by kernel_rfl)), ?_⟩
                  have L12 := L9.chP_then h21_19 (fun i hi => Nat.le_trans Ll0.size (f11.old hi))
                  have f13 := (f1_2.le d21)
                  have zq14n := (show ∀ g, rowOf Aa4_3 ca4_3 = some g → ¬ F g from (fun g hg hF => by have := f11.old hF;  have := (f0_0.row hg).2; omega))
                  have zq14 := f10.chP h21_19 zq14n
                  have zq14g : ∀ g, rowOf Aa4_3 ca4_3 = some g → ¬ F21_19 g := fun g hg hF => (g21_19 _ hF).elim (zq14n g hg) (fun hz => by have := (f10.row hg).2; omega)
                  have zq15n := (show ∀ g, rowOf Al cl = some g → ¬ F g from po1_0)
                  have zq15 := f13.chP h21_19 zq15n
                  have zq15g : ∀ g, rowOf Al cl = some g → ¬ F21_19 g := fun g hg hF => (g21_19 _ hF).elim (zq15n g hg) (fun hz => by have := (f13.row hg).2; omega)
                  refine G.any rfl rfl (.assign rfl) rfl rfl rfl ?_
                  refine G.nil ?_
                  refine E.thenN ?_
                  refine WC.seq ?_
                  refine WC.seq ?_
                  refine WC.region ?_
                  refine W.any (.move rfl) rfl rfl rfl ?_
                  refine W.any (.dec (.neq rfl rfl) (show _ = false from by first | decide | rfl)) rfl rfl rfl ?_
                  refine W.nil ?_
                  refine E.thenN ?_
                  refine WC.condF rfl ?_
                  refine WC.skip ?_
                  refine E.thenN ?_
                  refine WC.region ?_
                  refine W.any (.move rfl) rfl rfl rfl ?_
                  refine W.any (.move rfl) rfl rfl rfl ?_
                  refine W.any (.move rfl) rfl rfl rfl ?_
                  refine W.any (.move rfl) rfl rfl rfl ?_
                  refine W.any (.idxS (k) Try.underlying41 sz3 rfl rfl (oa4_3.vec.isSome iv_row (by omega)) (rfl) (by omega)) rfl rfl rfl ?_
                  refine W.rd (.vone (v := .int .i64 ((C.1.getD k 0))) na3 rfl zq14.vec iv_row (getS C.1 0 (by first | omega | (simp only [List.length_cons, List.length_nil]; omega))) rfl) rfl rfl rfl ?_
                  refine W.any (.buildP (legV (⟨((k : Nat) : Int), 0, (C.1.getD k 0)⟩ : Leg)) pl37 z37 rfl rfl) rfl rfl rfl ?_
                  refine W.ef rfl rfl rfl ?_
                  refine Ef.buildSliceV (len := 1) [_] Try.underlying24 el37 rfl (by simp [Value.cells, legV_row.len]) rfl (by decide) (by decide) ?_
                  intro g24_7 w24_7 hg24_7 b24_7 h24_7
                  have L16 := L12.trans h24_7
                  have b24_7 : Blk w24_7 g24_7 37 (([(⟨((k : Nat) : Int), 0, (C.1.getD k 0)⟩ : Leg)]).map legV).flatten.toArray := b24_7
                  have o24_7 : OVec w24_7 w21_19.heap.size 37 legV 3 (some ⟨g24_7, 0, none⟩) 1 1 ([(⟨((k : Nat) : Int), 0, (C.1.getD k 0)⟩ : Leg)]) := b24_7.ovec hg24_7 legV_row rfl rfl (by decide)
                  have f17 := (zq15.le h24_7)
                  refine W.ef rfl rfl rfl ?_
                  refine Ef.vpush (a := (⟨((k : Nat) : Int), 0, (C.1.getD k 0)⟩ : Leg)) Try.underlying24 el37 Try.underlying24 legV_row rfl f17 rfl b24_7 (by omega) (by unfold maxLen; omega) (by have := lb1_6; have := d21.size; have := h21_19.size; have := h24_7.size; omega) ?_
                  intro A24_8 c24_8 w24_8 o24_8 h24_8 at24_8
                  have L18 : Le w w24_8 := L16.then_ h24_8 (fun q hq => Nat.le_trans L7.size (f17.row hq).1)
                  have o19 := o24_8.cast (m' := (k + 1)) (ys := (legsW C.1 (k + 1))) (rfl) (legsW_next _ _)
                  refine W.any (.assign rfl) rfl rfl rfl ?_
                  refine W.nil ?_
                  refine E.blkN ?_
                  refine E.thenN ?_
                  refine WC.region ?_
                  refine W.any (.move rfl) rfl rfl rfl ?_
                  refine W.any (.add rfl rfl (by omega)) rfl rfl rfl ?_
                  refine W.any (.assign rfl) rfl rfl rfl ?_
                  refine W.nil ?_
                  have f20 := ((zq14.le h24_7).ch h24_8 ((Apart.symm (fun q h1 h2 => by have := (f8.row h1).2; have := (f17.row h2).1; omega))))
                  have f21 := ((p21_19.le h24_7).ch h24_8 (fun q hqq hF => zq15g q hqq hF))
                  refine E.again (k + 1, A24_8, c24_8, F21_19) (.cons rfl (.cons rfl (.cons rfl (.cons rfl (.cons rfl (.cons rfl (.cons rfl (.nil _)))))))) ?_ ?_
                  · exact ⟨by omega, fun j hj => (Nat.lt_succ_iff_lt_or_eq.1 hj).elim (hS j) (fun hh => by subst hh; omega), L18, by have := zl1; have := d21.size; have := h21_19.size; have := h24_7.size; have := h24_8.size; omega, f20, f21, o19, (fun g hg hF => (at24_8 g hg).elim (fun hz => zq15g g hz hF) (fun hz => by have := p21_19.lt hF; have := h24_7.size; omega))⟩
                  · first | omega | (simp only []; omega)
              · refine WC.condN rfl (decide_eq_false c4) ?_
                have hSn : ∀ j, j < xs.length → C.1.getD j 0 ≤ 17592186044416 := fun j hj => hS j (by omega)
                have hpl := paid_last hcs
                rw [hl] at hpl
                have hb0 := inB_T (hcs.inS (i := 0) (by omega)).1
                have ham := hcs.amt
                refine WC.exit ?_
                refine E.thenX ?_
                refine E.thenX ?_
                refine E.blkH ?_
                refine E.thenN ?_
                refine WC.seq ?_
                refine WC.seq ?_
                refine WC.drawS (fun w25 w' => Le w w' ∧ OVec w' w1_0.heap.size 3 iv 1 Aa4_3 C.1.length ca4_3 C.1) [0, 1, 2, 3, 4, 5, 6, 7, 8, 9, 11, 12, 13, 14, 10, 15, 16, 17, 18, 19, 20, 21, 22, 23, 24, 25, 27, 28, 26, 29, 30] mixed (by kernel_rfl) ?_
                intro w25 d25
                have L22 := Ll1.trans d25
                have f23 := (f1_0.le d25)
                refine ⟨⟨L22, f23⟩, ?_⟩
                refine GS.any rfl rfl (.move rfl) rfl rfl rfl ?_
                refine GS.any rfl rfl (.move rfl) rfl rfl rfl ?_
                have f24 := (f1_1.le d25)
                have f25 := (f1_2.le d25)
                refine GS.ef rfl rfl rfl rfl rfl ?_
                refine Ef.call go13 rfl rfl ((by have h := pay_led (s := (wayL xs C.1 k)) (cg := cl) f24 f25.vec (by omega) (fun q h0 h1 h2 => (show ∀ g, rowOf Al cl = some g → ¬ F g from po1_0) q (rowOf_of h0 (by have := f25.cap; omega))); rw [way_pay' hcs (show k = xs.length by omega)] at h; exact h)) ?_
                rintro _ w25_2 ⟨F25_2, rfl, p25_2, g25_2, h25_2⟩
                refine ⟨_, rfl, ?_⟩
                have L26 := L22.chP_then h25_2 (fun i hi => Nat.le_trans Ll0.size (f24.old hi))
                have zq27n := (show ∀ g, rowOf Aa4_3 ca4_3 = some g → ¬ F g from (fun g hg hF => by have := f24.old hF;  have := (f0_0.row hg).2; omega))
                have zq27 := f23.chP h25_2 zq27n
                have zq27g : ∀ g, rowOf Aa4_3 ca4_3 = some g → ¬ F25_2 g := fun g hg hF => (g25_2 _ hF).elim (zq27n g hg) (fun hz => by have := (f23.row hg).2; omega)
                have zq28n := (show ∀ g, rowOf Al cl = some g → ¬ F g from po1_0)
                have zq28 := f25.chP h25_2 zq28n
                have zq28g : ∀ g, rowOf Al cl = some g → ¬ F25_2 g := fun g hg hF => (g25_2 _ hF).elim (zq28n g hg) (fun hz => by have := (f25.row hg).2; omega)
                refine ⟨⟨L26, zq27⟩, ?_⟩
                refine GS.any rfl rfl (.dec (.neq rfl rfl) (show _ = false from by first | decide | rfl)) rfl rfl rfl ?_
                refine GS.any rfl rfl (.move rfl) rfl rfl rfl ?_
                refine GS.anyg rfl rfl (.move rfl) rfl rfl rfl (rfl) rfl rfl ?_
                refine GS.anyg rfl rfl (.move rfl) rfl rfl rfl (rfl) rfl rfl ?_
                refine GS.anyg rfl rfl (.idxS (0) Try.underlying82 sz70 rfl rfl (hV.isSome edgeV_row (by omega)) (rfl) (by omega)) rfl rfl rfl (rfl) rfl rfl ?_
                refine GS.anyg rfl rfl (.vfield fa70_0 (hV.isSome edgeV_row (by omega)) rfl) rfl rfl rfl (rfl) rfl rfl ?_
                refine GS.rdg rfl rfl (fun w' hs => .vcell (j := 0) (o := 0) (v := .int .i64 ((xs.getD 0 noEdge).f)) na3 rfl (hV.le hs.1) edgeV_row (getS xs noEdge (by first | omega | (simp only [List.length_cons, List.length_nil]; omega))) rfl) rfl rfl rfl (rfl) rfl rfl ?_
                refine GS.anyg rfl rfl (.move rfl) rfl rfl rfl (rfl) rfl rfl ?_
                refine GS.anyg rfl rfl (.idxS (0) Try.underlying41 sz3 rfl rfl (oa4_3.vec.isSome iv_row (by omega)) (rfl) (by omega)) rfl rfl rfl (rfl) rfl rfl ?_
                refine GS.rdg rfl rfl (fun w' hs => .vone (v := .int .i64 ((C.1.getD 0 0))) na3 rfl hs.2.vec iv_row (getS C.1 0 (by first | omega | (simp only [List.length_cons, List.length_nil]; omega))) rfl) rfl rfl rfl (rfl) rfl rfl ?_
                refine GS.anyg rfl rfl (.sub rfl rfl (by omega)) rfl rfl rfl (rfl) rfl rfl ?_
                refine GS.efg rfl rfl rfl rfl rfl (rfl) rfl rfl ?_
                refine Ef.call go15 rfl rfl ((by have h := worth_led (s := (paidL xs C.1)) ((xs.getD 0 noEdge).f) p25_2; rw [paid_first hcs] at h; exact h)) ?_
                rintro _ w25_10 ⟨rfl, h25_10⟩
                refine ⟨_, rfl, ?_⟩
                have L29 := L26.trans h25_10
                have f30 := (zq27.le h25_10)
                refine ⟨⟨L29, f30⟩, ?_⟩
                refine GS.anyg rfl rfl (.dec (.neq rfl rfl) (decide_eq_false (by unfold c45; omega))) rfl rfl rfl (rfl) rfl rfl ?_
                refine GS.any rfl rfl (.pickF rfl rfl rfl) rfl rfl rfl ?_
                refine GS.any rfl rfl (.move rfl) rfl rfl rfl ?_
                refine GS.anyg rfl rfl (.move rfl) rfl rfl rfl (rfl) rfl rfl ?_
                refine GS.anyg rfl rfl (.move rfl) rfl rfl rfl (rfl) rfl rfl ?_
                refine GS.anyg rfl rfl (.move rfl) rfl rfl rfl (rfl) rfl rfl ?_
                refine GS.rdg rfl rfl (fun w' hs => .len Try.underlying82 rfl) rfl rfl rfl (rfl) rfl rfl ?_
                refine GS.anyg rfl rfl (.sub rfl rfl (by omega)) rfl rfl rfl (rfl) rfl rfl ?_
                refine GS.anyg rfl rfl (.idxS ((n - 1)) Try.underlying82 sz70 rfl rfl (hV.isSome edgeV_row (by omega)) (by omega) (by omega)) rfl rfl rfl (rfl) rfl rfl ?_
                refine GS.anyg rfl rfl (.vfield fa70_1 (hV.isSome edgeV_row (by omega)) rfl) rfl rfl rfl (rfl) rfl rfl ?_
                refine GS.rdg rfl rfl (fun w' hs => .vcell (j := (n - 1)) (o := 1) (v := .int .i64 ((xs.getD (n - 1) noEdge).t)) na3 rfl (hV.le hs.1) edgeV_row (getS xs noEdge (by first | omega | (simp only [List.length_cons, List.length_nil]; omega))) rfl) rfl rfl rfl (rfl) rfl rfl ?_
                refine GS.anyg rfl rfl (.move rfl) rfl rfl rfl (rfl) rfl rfl ?_
                refine GS.anyg rfl rfl (.add rfl rfl (by omega)) rfl rfl rfl (rfl) rfl rfl ?_
                have f31 := (p25_2.le h25_10)
                refine GS.efg rfl rfl rfl rfl rfl (rfl) rfl rfl ?_
                refine Ef.call go15 rfl rfl ((by have h := worth_led (s := (paidL xs C.1)) ((xs.getD (n - 1) noEdge).t) f31; rw [hpl] at h; exact h)) ?_
                rintro _ w25_26 ⟨rfl, h25_26⟩
                refine ⟨_, rfl, ?_⟩
                have L32 := L29.trans h25_26
                have f33 := (f30.le h25_26)
                refine ⟨⟨L32, f33⟩, ?_⟩
                refine GS.anyg rfl rfl (.dec (.neq rfl rfl) (decide_eq_false (by unfold c45; omega))) rfl rfl rfl (rfl) rfl rfl ?_
                refine GS.any rfl rfl (.pickF rfl rfl rfl) rfl rfl rfl ?_
                refine GS.nil ?_
                refine E.thenN ?_
                refine WC.condF rfl ?_
                refine WC.skip ?_
                refine E.thenN ?_
                refine WC.seq ?_
                refine WC.seq ?_
                refine WC.region ?_
                refine W.any (.assign rfl) rfl rfl rfl ?_
                refine W.nil ?_
                refine E.thenN ?_
                refine WC.block ?_
                have f34 := (f31.le h25_26)
                refine WC.loop (ι := Nat) (fun i => [(0, .slice A n c), (7, .bool true), (8, .slice Aa4_3 C.1.length ca4_3), (13, .pointer (some ⟨gp10_1, 0, none⟩)), (17, .int .i64 (((i : Nat) : Int)))]) (fun i wl2 => (1 ≤ i) ∧ (i ≤ n) ∧ Le w wl2 ∧ w25_26.heap.size ≤ wl2.heap.size ∧ OVec wl2 w1_0.heap.size 3 iv 1 Aa4_3 C.1.length ca4_3 C.1 ∧ LPool wl2 wl0.heap.size gp10_1 F25_2 (paidL xs C.1)) (fun i => n - i) 1 ?_ ?_ ?_
                · exact .cons rfl (.cons rfl (.cons rfl (.cons rfl (.cons rfl (.nil _)))))
                · exact ⟨Nat.le_refl _, by omega, L32, Nat.le_refl _, f33, f34⟩
                · rintro i wl2 ⟨hi1, hi, Ll2, zl2, f2_0, f2_1⟩
                  have lb2_2 : w1_0.heap.size ≤ wl2.heap.size := Nat.le_trans lb1_2 (by have := d25.size; have := h25_2.size; have := h25_10.size; have := h25_26.size; omega)
                  refine WC.seq ?_
                  refine WC.seq ?_
                  refine WC.region ?_
                  refine W.any (.move rfl) rfl rfl rfl ?_
                  refine W.any (.move rfl) rfl rfl rfl ?_
                  refine W.rd (.len Try.underlying82 rfl) rfl rfl rfl ?_
                  refine W.any (.lss rfl rfl) rfl rfl rfl ?_
                  refine W.nil ?_
                  refine E.thenN ?_
                  by_cases c8 : ((i : Nat) : Int) < ((n : Nat) : Int)
                  · refine WC.condY rfl (decide_eq_true c8) ?_
                    have hpI := polI_ok (edgeOk_T (wayG_at hcs.way (i := i) (by omega)).1).2.2.2.2.2
                    have hpm := paid_mid hcs (show 0 < i by omega) (by omega)
                    have hfb := feeG_bound (xs.getD i noEdge).pol (C.1.getD i 0)
                    refine WC.skip ?_
                    refine E.thenN ?_
                    refine WC.seq ?_
                    refine WC.block ?_
                    refine WC.seq ?_
                    refine WC.draw [0, 1, 2, 3, 4, 5, 6, 7, 8, 9, 10, 11, 12, 13, 14] mixed (by kernel_rfl) ?_
                    intro w30 d30
                    have L35 := Ll2.trans d30
                    refine G.any rfl rfl (.move rfl) rfl rfl rfl ?_
                    refine G.any rfl rfl (.move rfl) rfl rfl rfl ?_
                    refine G.any rfl rfl (.idxS (i) Try.underlying82 sz70 rfl rfl (hV.isSome edgeV_row (by omega)) (rfl) (by omega)) rfl rfl rfl ?_
                    refine G.any rfl rfl (.vfield fa70_4 (hV.isSome edgeV_row (by omega)) rfl) rfl rfl rfl ?_
                    refine G.rd rfl rfl (.vpart (j := i) (o := 4) (polV ((xs.getD i noEdge).pol)) ag68 rfl (by decide) rfl (hV.le L35) edgeV_row (getS xs noEdge (by first | omega | (simp only [List.length_cons, List.length_nil]; omega))) rfl) rfl rfl rfl ?_
                    refine G.any rfl rfl (.move rfl) rfl rfl rfl ?_
                    refine G.any rfl rfl (.move rfl) rfl rfl rfl ?_
                    refine G.any rfl rfl (.idxS (i) Try.underlying41 sz3 rfl rfl (oa4_3.vec.isSome iv_row (by omega)) (rfl) (by omega)) rfl rfl rfl ?_
                    have f36 := (f2_0.le d30)
                    refine G.rd rfl rfl (.vone (v := .int .i64 ((C.1.getD i 0))) na3 rfl f36.vec iv_row (getS C.1 0 (by first | omega | (simp only [List.length_cons, List.length_nil]; omega))) rfl) rfl rfl rfl ?_
                    refine G.ef rfl rfl rfl rfl rfl ?_
                    refine Ef.call go41 rfl rfl (hfee_ok ((xs.getD i noEdge).pol) (C.1.getD i 0) hpI w30) ?_
                    rintro _ w30_9 ⟨rfl, h30_9⟩
                    refine ⟨_, rfl, ?_⟩
                    refine ⟨fun _ => h30_9, ?_⟩
                    have L37 := L35.trans h30_9
                    refine G.any rfl rfl (.move rfl) rfl rfl rfl ?_
                    refine G.any rfl rfl (.extract (v := .int .i64 ((feeG ((xs.getD i noEdge).pol) (C.1.getD i 0)).1)) rfl rfl) rfl rfl rfl ?_
                    refine G.any rfl rfl (.extract (v := .bool ((feeG ((xs.getD i noEdge).pol) (C.1.getD i 0)).2)) rfl rfl) rfl rfl rfl ?_
                    refine G.any rfl rfl (.assign rfl) rfl rfl rfl ?_
                    refine G.any rfl rfl (.assign rfl) rfl rfl rfl ?_
                    refine G.nil ?_
                    refine E.thenN ?_
                    refine WC.seq ?_
                    refine WC.region ?_
                    refine W.any (.move rfl) rfl rfl rfl ?_
                    refine W.any (.dec (.not rfl) (by rw [hpm.1])) rfl rfl rfl ?_
                    refine W.any (.move rfl) rfl rfl rfl ?_
                    refine W.rdg (Any.rd (.move rfl) _) rfl rfl rfl (rfl) rfl rfl ?_
                    refine W.rdg (Any.rd (.move rfl) _) rfl rfl rfl (rfl) rfl rfl ?_
                    refine W.rdg (Any.rd (.move rfl) _) rfl rfl rfl (rfl) rfl rfl ?_
                    refine W.rdg (Any.rd (.idxS (i) Try.underlying82 sz70 rfl rfl (hV.isSome edgeV_row (by omega)) (rfl) (by omega)) _) rfl rfl rfl (rfl) rfl rfl ?_
                    refine W.rdg (Any.rd (.vfield fa70_0 (hV.isSome edgeV_row (by omega)) rfl) _) rfl rfl rfl (rfl) rfl rfl ?_
                    refine W.rdg (.vcell (j := i) (o := 0) (v := .int .i64 ((xs.getD i noEdge).f)) na3 rfl (hV.le L37) edgeV_row (getS xs noEdge (by first | omega | (simp only [List.length_cons, List.length_nil]; omega))) rfl) rfl rfl rfl (rfl) rfl rfl ?_
                    have f38 := (f2_1.le (d30.trans h30_9))
                    refine W.efg rfl rfl rfl (rfl) rfl rfl ?_
                    refine Ef.call go15 rfl rfl ((by have h := worth_led (s := (paidL xs C.1)) ((xs.getD i noEdge).f) f38; rw [hpm.2] at h; exact h)) ?_
                    rintro _ w31_9 ⟨rfl, h31_9⟩
                    refine ⟨_, rfl, ?_⟩
                    have L39 := L37.trans h31_9
                    refine W.rdg (Any.rd (.move rfl) _) rfl rfl rfl (rfl) rfl rfl ?_
                    refine W.rdg (Any.rd (.add rfl rfl (by omega)) _) rfl rfl rfl (rfl) rfl rfl ?_
                    refine W.rdg (Any.rd (.dec (.neq rfl rfl) (decide_eq_false (by unfold c45; omega))) _) rfl rfl rfl (rfl) rfl rfl ?_
                    refine W.any (.pickF rfl rfl rfl) rfl rfl rfl ?_
                    refine W.nil ?_
                    refine E.thenN ?_
                    refine WC.condF rfl ?_
                    refine WC.skip ?_
                    refine E.blkN ?_
                    refine E.thenN ?_
                    refine WC.region ?_
                    refine W.any (.move rfl) rfl rfl rfl ?_
                    refine W.any (.add rfl rfl (by omega)) rfl rfl rfl ?_
                    refine W.any (.assign rfl) rfl rfl rfl ?_
                    refine W.nil ?_
                    have f40 := (f36.le (h30_9.trans h31_9))
                    have f41 := (f38.le h31_9)
                    refine E.again (i + 1) (.cons rfl (.cons rfl (.cons rfl (.cons rfl (.cons rfl (.nil _)))))) ?_ ?_
                    · exact ⟨by omega, by omega, L39, by have := zl2; have := d30.size; have := h30_9.size; have := h31_9.size; omega, f40, f41⟩
                    · first | omega | (simp only []; omega)
                  · refine WC.condN rfl (decide_eq_false c8) ?_
                    refine WC.exit ?_
                    refine E.thenX ?_
                    refine E.thenX ?_
                    refine E.blkH ?_
                    refine E.thenN ?_
                    refine WC.seq ?_
                    refine WC.region ?_
                    refine W.any (.move rfl) rfl rfl rfl ?_
                    refine W.any (.move rfl) rfl rfl rfl ?_
                    refine W.rdg (Any.rd (.move rfl) _) rfl rfl rfl (rfl) rfl rfl ?_
                    refine W.efg rfl rfl rfl (rfl) rfl rfl ?_
                    refine Ef.call go20 rfl rfl ((by have h := total_led (s := (paidL xs C.1)) f2_1; rw [paid_all hcs hSn] at h; exact h)) ?_
                    rintro _ w33_3 ⟨rfl, h33_3⟩
                    refine ⟨_, rfl, ?_⟩
                    have L42 := Ll2.trans h33_3
                    refine W.rdg (Any.rd (.dec (.eql rfl rfl) (show _ = true from by first | decide | rfl)) _) rfl rfl rfl (rfl) rfl rfl ?_
                    refine W.any (.pickT rfl rfl rfl) rfl rfl rfl ?_
                    refine W.any (.assign rfl) rfl rfl rfl ?_
                    refine W.nil ?_
                    refine E.thenN ?_
                    refine WC.ret ?_
                    refine E.retG1 rfl rfl ?_
                    exact ⟨rfl, L42⟩
end Go.Proofs.Ytnmcbdbpafhinaa

