/- LedgerWhole: for every input the law answers true and leaves its arguments as they were. -/
import Derived.Test.YtnmcbdbpafhinaaLedgerWholeL
import Derived.OrdersHeld
import Derived.WalkKit
import Derived.Deep.AppendSrc
import Derived.Deep.MidRow
import Derived.Laws.OwnMore
import Derived.WalkSpells
import Derived.Lib.ConvBytes
import Derived.Lib.AppendZerosOnto
import Derived.Laws.StructEq
import Derived.Maps.RangeRun
import Derived.Laws.Pointers
import Derived.Test.YtnmcbdbpafhinaaProg
import Derived.KernelRfl
import Derived.Lib.Mul64
import Derived.Shelf.SlIterI.Nil
import Derived.Shelf.SortM.Plain
import Derived.Shelf.SortM.SortNone
import Derived.Ground.GgzProg
import Derived.Ground.SlgmProg
namespace Go.Proofs.Ytnmcbdbpafhinaa
open Go Go.Sx Go.Num Go.Gsp Go.Lsp
set_option maxRecDepth 20000
set_option linter.unusedSimpArgs false
set_option linter.unusedVariables false
theorem eqv_pairV {d : Nat} (a b : Pair) : Eqv Try.prog (d + 2) 31 (.agg (pairV a).toArray) (.agg (pairV b).toArray) (decide (a = b)) := by
  have h := Eqv.arr (P := Try.prog) (d := d + 1) (xs := (pairV a).toArray) (ys := (pairV b).toArray) (fun i => decide (a.ix i = b.ix i)) (fun i => .int .i64 (a.ix i)) (fun i => .int .i64 (b.ix i)) Try.underlying31 sz3 (fun i hi w => run_part1 na3 (by rw [Nat.mul_one]; exact pair_ix a hi) w) (fun i hi w => run_part1 na3 (by rw [Nat.mul_one]; exact pair_ix b hi) w) (fun i hi => Eqv.int (P := Try.prog) _ _ Try.underlying3)
  have e : ((List.range 2).all fun i => decide (a.ix i = b.ix i)) = decide (a = b) := by
    obtain ⟨a1, a2⟩ := a
    obtain ⟨b1, b2⟩ := b
    rw [Bool.eq_iff_iff]
    simp [List.range_succ, Pair.ix]
  rw [e] at h
  exact h
namespace S46
def s0 : Led := ⟨[100, 100, 50], [], 0, [], 0, 0⟩
def s1 : Led := (openL s0 (⟨3, 0, 1, 60, 0⟩ : Seat) 5).1
theorem e1 : openL s0 (⟨3, 0, 1, 60, 0⟩ : Seat) 5 = (s1, 0) := by decide +kernel
theorem e2 : openL s1 (⟨3, 1, 2, 0, 0⟩ : Seat) 0 = (s1, 4) := by decide +kernel
theorem e3 : openL s1 (⟨4, 0, 1, 36, 0⟩ : Seat) 0 = (s1, 8) := by decide +kernel
theorem e4 : ownL s1.own 0 = 35 := by decide +kernel
theorem e5 : worthL s1.own s1.ls s1.lh 0 = 95 := by decide +kernel
def s6 : Led := (offerL s1 3 0 1 40 16).1
theorem e6 : offerL s1 3 0 1 40 16 = (s6, 0) := by decide +kernel
theorem e7 : heldL s6.lh 3 0 = 40 := by decide +kernel
theorem e8 : worthL s6.own s6.ls s6.lh 0 = 95 := by decide +kernel
theorem e9 : closeL s6 3 (⟨0, 0⟩ : Pair) = (s6, 14) := by decide +kernel
theorem e10 : settleL s6 3 0 1 3 = (s6, 23) := by decide +kernel
def s11 : Led := (settleL s6 3 0 1 2).1
theorem e11 : settleL s6 3 0 1 2 = (s11, 0) := by decide +kernel
theorem e12 : worthL s11.own s11.ls s11.lh 1 = 140 := by decide +kernel
theorem e13 : failL s11 3 0 1 = (s11, 5) := by decide +kernel
def s14 : Led := (openL s11 (⟨7, 1, 2, 30, 10⟩ : Seat) 0).1
theorem e14 : openL s11 (⟨7, 1, 2, 30, 10⟩ : Seat) 0 = (s14, 0) := by decide +kernel
def s15 : Led := (payL s14 [(⟨3, 0, 12⟩ : Leg), (⟨7, 0, 11⟩ : Leg)]).1
theorem e15 : payL s14 [(⟨3, 0, 12⟩ : Leg), (⟨7, 0, 11⟩ : Leg)] = (s15, 0) := by decide +kernel
theorem e16 : worthL s15.own s15.ls s15.lh 2 = 61 := by decide +kernel
theorem e17 : payL s15 [(⟨3, 0, 1⟩ : Leg), (⟨7, 0, 99⟩ : Leg)] = (s15, 8) := by decide +kernel
theorem e18 : worthL s15.own s15.ls s15.lh 0 = 43 := by decide +kernel
def s19 : Led := (cutL s15 [3, 7] [(⟨3, 0, 2, 8, 21⟩ : Seat), (⟨9, 1, 0, 70, 0⟩ : Seat)] [0, 1, 0]).1
theorem e19 : cutL s15 [3, 7] [(⟨3, 0, 2, 8, 21⟩ : Seat), (⟨9, 1, 0, 70, 0⟩ : Seat)] [0, 1, 0] = (s19, 0) := by decide +kernel
def s20 : Led := (spliceL s19 9 (⟨(-20), 30⟩ : Pair) (⟨2, 0⟩ : Pair)).1
theorem e20 : spliceL s19 9 (⟨(-20), 30⟩ : Pair) (⟨2, 0⟩ : Pair) = (s20, 0) := by decide +kernel
theorem e21 : ownL s20.own 1 = 88 := by decide +kernel
theorem e22 : ownL s20.own 0 = 5 := by decide +kernel
theorem f1 : seatAt' s20.ls 9 = ⟨9, 1, 0, 50, 30⟩ := by decide +kernel
theorem f2 : (getG 9 s20.ls).isSome = true := by decide +kernel
theorem f3 : (seatsL s20.ls).length = 2 := by decide +kernel
theorem f4 : s20.all - s20.lost = 242 := by decide +kernel
theorem f5 : s20.lost = 8 := by decide +kernel
end S46
open S46
theorem small46_ok (w : World) : Calls Try.prog 11 #[] w fun r w' => r = .returned (.bool true) ∧ Le w w' := by
  refine enter Try.func11 rfl rfl ?_
  have L0 := Le.refl w
  refine WC.seq ?_
  refine WC.region ?_
  refine W.any (.assign rfl) rfl rfl rfl ?_
  refine W.nil ?_
  refine E.thenN ?_
  refine WC.seq ?_
  refine WC.region ?_
  refine W.ef rfl rfl rfl ?_
  refine Ef.buildSliceV (len := 3) [_, _, _] Try.underlying41 el3 rfl (by simp [Value.cells]) rfl (by decide) (by decide) ?_
  intro g1_0 w1_0 hg1_0 b1_0 h1_0
  have L1 := L0.trans h1_0
  have b1_0 : Blk w1_0 g1_0 3 (([100, 100, 50]).map iv).flatten.toArray := b1_0
  have o1_0 : OVec w1_0 w.heap.size 3 iv 1 (some ⟨g1_0, 0, none⟩) 3 3 ([100, 100, 50]) := b1_0.ovec hg1_0 iv_row rfl rfl (by decide)
  refine W.ef rfl rfl rfl ?_
  refine Ef.call go18 rfl rfl (new_led w1_0 o1_0.vec (by decide)) ?_
  rintro _ w1_1 ⟨gp1_1, F1_1, rfl, p1_1, h1_1⟩
  refine ⟨_, rfl, ?_⟩
  have L2 := L1.trans h1_1
  refine W.any (.assign rfl) rfl rfl rfl ?_
  refine W.nil ?_
  refine E.thenN ?_
  refine WC.seq ?_
  refine WC.seq ?_
  refine WC.region ?_
  refine W.any (.move rfl) rfl rfl rfl ?_
  refine W.any (.dec (.isNilP (by kernel_rfl) rfl) rfl) rfl rfl rfl ?_
  refine W.any (.move rfl) rfl rfl rfl ?_
  refine W.efg rfl rfl rfl (rfl) rfl rfl ?_
  refine Ef.call go18 rfl rfl (new_none w1_1 (Vec.nil _ _ _ _) (by decide)) ?_
  rintro _ w2_3 ⟨rfl, h2_3⟩
  refine ⟨_, rfl, ?_⟩
  have L3 := L2.trans h2_3
  refine W.rdg (Any.rd (.dec (.notNilP (by kernel_rfl) rfl) rfl) _) rfl rfl rfl (rfl) rfl rfl ?_
  refine W.any (.pickF rfl rfl rfl) rfl rfl rfl ?_
  refine W.any (.move rfl) rfl rfl rfl ?_
  refine W.efg rfl rfl rfl (rfl) rfl rfl ?_
  refine Ef.buildSliceV (len := 2) [_, _] Try.underlying41 el3 rfl (by simp [Value.cells]) rfl (by decide) (by decide) ?_
  intro g2_7 w2_7 hg2_7 b2_7 h2_7
  have L4 := L3.trans h2_7
  have b2_7 : Blk w2_7 g2_7 3 (([1125899906842624, 1]).map iv).flatten.toArray := b2_7
  have o2_7 : OVec w2_7 w2_3.heap.size 3 iv 1 (some ⟨g2_7, 0, none⟩) 2 2 ([1125899906842624, 1]) := b2_7.ovec hg2_7 iv_row rfl rfl (by decide)
  refine W.efg rfl rfl rfl (rfl) rfl rfl ?_
  refine Ef.call go18 rfl rfl (new_none w2_7 o2_7.vec (by decide)) ?_
  rintro _ w2_8 ⟨rfl, h2_8⟩
  refine ⟨_, rfl, ?_⟩
  have L5 := L4.trans h2_8
  refine W.rdg (Any.rd (.dec (.notNilP (by kernel_rfl) rfl) rfl) _) rfl rfl rfl (rfl) rfl rfl ?_
  refine W.any (.pickF rfl rfl rfl) rfl rfl rfl ?_
  refine W.any (.move rfl) rfl rfl rfl ?_
  refine W.efg rfl rfl rfl (rfl) rfl rfl ?_
  refine Ef.buildSliceV (len := 1) [_] Try.underlying41 el3 rfl (by simp [Value.cells]) rfl (by decide) (by decide) ?_
  intro g2_12 w2_12 hg2_12 b2_12 h2_12
  have L6 := L5.trans h2_12
  have b2_12 : Blk w2_12 g2_12 3 (([(-1)]).map iv).flatten.toArray := b2_12
  have o2_12 : OVec w2_12 w2_8.heap.size 3 iv 1 (some ⟨g2_12, 0, none⟩) 1 1 ([(-1)]) := b2_12.ovec hg2_12 iv_row rfl rfl (by decide)
  refine W.efg rfl rfl rfl (rfl) rfl rfl ?_
  refine Ef.call go18 rfl rfl (new_none w2_12 o2_12.vec (by decide)) ?_
  rintro _ w2_13 ⟨rfl, h2_13⟩
  refine ⟨_, rfl, ?_⟩
  have L7 := L6.trans h2_13
  refine W.rdg (Any.rd (.dec (.notNilP (by kernel_rfl) rfl) rfl) _) rfl rfl rfl (rfl) rfl rfl ?_
  refine W.any (.pickF rfl rfl rfl) rfl rfl rfl ?_
  refine W.nil ?_
  refine E.thenN ?_
  refine WC.condF rfl ?_
  refine WC.skip ?_
  refine E.thenN ?_
  refine WC.seq ?_
  refine WC.region ?_
  refine W.any (.move rfl) rfl rfl rfl ?_
  refine W.any (.buildA (cells := (pairV (⟨0, 1⟩ : Pair)).toArray) Try.underlying31 sz3 z31 rfl rfl) rfl rfl rfl ?_
  refine W.any (.buildA (cells := (pairV (⟨60, 0⟩ : Pair)).toArray) Try.underlying31 sz3 z31 rfl rfl) rfl rfl rfl ?_
  refine W.any (.buildP (seatV (⟨3, 0, 1, 60, 0⟩ : Seat)) pl33 z33 rfl rfl) rfl rfl rfl ?_
  have f8 := (p1_1.le (h2_3.trans (h2_7.trans (h2_8.trans (h2_12.trans h2_13)))))
  refine W.ef rfl rfl rfl ?_
  refine Ef.call go40 rfl rfl ((by have h := open_led (s := s0) (⟨3, 0, 1, 60, 0⟩ : Seat) 5 f8; rw [e1] at h; exact h)) ?_
  rintro _ w4_4 ⟨F4_4, rfl, p4_4, g4_4, h4_4⟩
  refine ⟨_, rfl, ?_⟩
  have L9 := L7.chP_then h4_4 (fun i hi => Nat.le_trans L1.size (f8.old hi))
  have f10 := (o1_0.le (h1_1.trans (h2_3.trans (h2_7.trans (h2_8.trans (h2_12.trans h2_13))))))
  have f11 := (o2_7.le (h2_8.trans (h2_12.trans h2_13)))
  have f12 := (o2_12.le h2_13)
  have zq13n := (show ∀ g, rowOf (some ⟨g1_0, 0, none⟩) 3 = some g → ¬ F1_1 g from (fun g hg hF => by have := f8.old hF;  have := (o1_0.row hg).2; omega))
  have zq13 := f10.chP h4_4 zq13n
  have zq13g : ∀ g, rowOf (some ⟨g1_0, 0, none⟩) 3 = some g → ¬ F4_4 g := fun g hg hF => (g4_4 _ hF).elim (zq13n g hg) (fun hz => by have := (f10.row hg).2; omega)
  have zq14n := (show ∀ g, rowOf (some ⟨g2_7, 0, none⟩) 2 = some g → ¬ F1_1 g from (fun g hg hF => by have := p1_1.lt hF; have := h2_3.size; have := (f11.row hg).1; omega))
  have zq14 := f11.chP h4_4 zq14n
  have zq14g : ∀ g, rowOf (some ⟨g2_7, 0, none⟩) 2 = some g → ¬ F4_4 g := fun g hg hF => (g4_4 _ hF).elim (zq14n g hg) (fun hz => by have := (f11.row hg).2; omega)
  have zq15n := (show ∀ g, rowOf (some ⟨g2_12, 0, none⟩) 1 = some g → ¬ F1_1 g from (fun g hg hF => by have := p1_1.lt hF; have := h2_3.size; have := h2_7.size; have := h2_8.size; have := (f12.row hg).1; omega))
  have zq15 := f12.chP h4_4 zq15n
  have zq15g : ∀ g, rowOf (some ⟨g2_12, 0, none⟩) 1 = some g → ¬ F4_4 g := fun g hg hF => (g4_4 _ hF).elim (zq15n g hg) (fun hz => by have := (f12.row hg).2; omega)
  refine W.any (.dec (.eql rfl rfl) (show _ = true from by decide)) rfl rfl rfl ?_
  refine W.any (.move rfl) rfl rfl rfl ?_
  refine W.rdg (Any.rd (.move rfl) _) rfl rfl rfl (rfl) rfl rfl ?_
  refine W.rdg (Any.rd (.buildA (cells := (pairV (⟨1, 2⟩ : Pair)).toArray) Try.underlying31 sz3 z31 rfl rfl) _) rfl rfl rfl (rfl) rfl rfl ?_
  refine W.rdg (Any.rd (.buildP (seatV (⟨3, 1, 2, 0, 0⟩ : Seat)) pl33 z33 rfl rfl) _) rfl rfl rfl (rfl) rfl rfl ?_
  refine W.efg rfl rfl rfl (rfl) rfl rfl ?_
  refine Ef.call go40 rfl rfl ((by have h := open_led (s := s1) (⟨3, 1, 2, 0, 0⟩ : Seat) 0 p4_4; rw [e2] at h; exact h)) ?_
  rintro _ w4_10 ⟨F4_10, rfl, p4_10, g4_10, h4_10⟩
  refine ⟨_, rfl, ?_⟩
  have L16 := L9.chP_then h4_10 (fun i hi => Nat.le_trans L1.size (p4_4.old hi))
  have zq17n := (show ∀ g, rowOf (some ⟨g1_0, 0, none⟩) 3 = some g → ¬ F4_4 g from zq13g)
  have zq17 := zq13.chP h4_10 zq17n
  have zq17g : ∀ g, rowOf (some ⟨g1_0, 0, none⟩) 3 = some g → ¬ F4_10 g := fun g hg hF => (g4_10 _ hF).elim (zq17n g hg) (fun hz => by have := (zq13.row hg).2; omega)
  have zq18n := (show ∀ g, rowOf (some ⟨g2_7, 0, none⟩) 2 = some g → ¬ F4_4 g from zq14g)
  have zq18 := zq14.chP h4_10 zq18n
  have zq18g : ∀ g, rowOf (some ⟨g2_7, 0, none⟩) 2 = some g → ¬ F4_10 g := fun g hg hF => (g4_10 _ hF).elim (zq18n g hg) (fun hz => by have := (zq14.row hg).2; omega)
  have zq19n := (show ∀ g, rowOf (some ⟨g2_12, 0, none⟩) 1 = some g → ¬ F4_4 g from zq15g)
  have zq19 := zq15.chP h4_10 zq19n
  have zq19g : ∀ g, rowOf (some ⟨g2_12, 0, none⟩) 1 = some g → ¬ F4_10 g := fun g hg hF => (g4_10 _ hF).elim (zq19n g hg) (fun hz => by have := (zq15.row hg).2; omega)
  refine W.rdg (Any.rd (.dec (.eql rfl rfl) (show _ = true from by decide)) _) rfl rfl rfl (rfl) rfl rfl ?_
  refine W.any (.pickT rfl rfl rfl) rfl rfl rfl ?_
  refine W.any (.move rfl) rfl rfl rfl ?_
  refine W.rdg (Any.rd (.move rfl) _) rfl rfl rfl (rfl) rfl rfl ?_
  refine W.rdg (Any.rd (.buildA (cells := (pairV (⟨0, 1⟩ : Pair)).toArray) Try.underlying31 sz3 z31 rfl rfl) _) rfl rfl rfl (rfl) rfl rfl ?_
  refine W.rdg (Any.rd (.buildA (cells := (pairV (⟨36, 0⟩ : Pair)).toArray) Try.underlying31 sz3 z31 rfl rfl) _) rfl rfl rfl (rfl) rfl rfl ?_
  refine W.rdg (Any.rd (.buildP (seatV (⟨4, 0, 1, 36, 0⟩ : Seat)) pl33 z33 rfl rfl) _) rfl rfl rfl (rfl) rfl rfl ?_
  refine W.efg rfl rfl rfl (rfl) rfl rfl ?_
  refine Ef.call go40 rfl rfl ((by have h := open_led (s := s1) (⟨4, 0, 1, 36, 0⟩ : Seat) 0 p4_10; rw [e3] at h; exact h)) ?_
  rintro _ w4_18 ⟨F4_18, rfl, p4_18, g4_18, h4_18⟩
  refine ⟨_, rfl, ?_⟩
  have L20 := L16.chP_then h4_18 (fun i hi => Nat.le_trans L1.size (p4_10.old hi))
  have zq21n := (show ∀ g, rowOf (some ⟨g1_0, 0, none⟩) 3 = some g → ¬ F4_10 g from zq17g)
  have zq21 := zq17.chP h4_18 zq21n
  have zq21g : ∀ g, rowOf (some ⟨g1_0, 0, none⟩) 3 = some g → ¬ F4_18 g := fun g hg hF => (g4_18 _ hF).elim (zq21n g hg) (fun hz => by have := (zq17.row hg).2; omega)
  have zq22n := (show ∀ g, rowOf (some ⟨g2_7, 0, none⟩) 2 = some g → ¬ F4_10 g from zq18g)
  have zq22 := zq18.chP h4_18 zq22n
  have zq22g : ∀ g, rowOf (some ⟨g2_7, 0, none⟩) 2 = some g → ¬ F4_18 g := fun g hg hF => (g4_18 _ hF).elim (zq22n g hg) (fun hz => by have := (zq18.row hg).2; omega)
  have zq23n := (show ∀ g, rowOf (some ⟨g2_12, 0, none⟩) 1 = some g → ¬ F4_10 g from zq19g)
  have zq23 := zq19.chP h4_18 zq23n
  have zq23g : ∀ g, rowOf (some ⟨g2_12, 0, none⟩) 1 = some g → ¬ F4_18 g := fun g hg hF => (g4_18 _ hF).elim (zq23n g hg) (fun hz => by have := (zq19.row hg).2; omega)
  refine W.rdg (Any.rd (.dec (.eql rfl rfl) (show _ = true from by decide)) _) rfl rfl rfl (rfl) rfl rfl ?_
  refine W.any (.pickT rfl rfl rfl) rfl rfl rfl ?_
  refine W.any (.move rfl) rfl rfl rfl ?_
  refine W.rdg (Any.rd (.move rfl) _) rfl rfl rfl (rfl) rfl rfl ?_
  refine W.efg rfl rfl rfl (rfl) rfl rfl ?_
  refine Ef.call go16 rfl rfl ((by have h := own_led (s := s1) 0 p4_18; rw [e4] at h; exact h)) ?_
  rintro _ w4_23 ⟨rfl, h4_23⟩
  refine ⟨_, rfl, ?_⟩
  have L24 := L20.trans h4_23
  refine W.rdg (Any.rd (.dec (.eql rfl rfl) (show _ = true from by decide)) _) rfl rfl rfl (rfl) rfl rfl ?_
  refine W.any (.pickT rfl rfl rfl) rfl rfl rfl ?_
  refine W.any (.move rfl) rfl rfl rfl ?_
  refine W.rdg (Any.rd (.move rfl) _) rfl rfl rfl (rfl) rfl rfl ?_
  have f25 := (p4_18.le h4_23)
  refine W.efg rfl rfl rfl (rfl) rfl rfl ?_
  refine Ef.call go15 rfl rfl ((by have h := worth_led (s := s1) 0 f25; rw [e5] at h; exact h)) ?_
  rintro _ w4_28 ⟨rfl, h4_28⟩
  refine ⟨_, rfl, ?_⟩
  have L26 := L24.trans h4_28
  refine W.rdg (Any.rd (.dec (.eql rfl rfl) (show _ = true from by decide)) _) rfl rfl rfl (rfl) rfl rfl ?_
  refine W.any (.pickT rfl rfl rfl) rfl rfl rfl ?_
  refine W.any (.assign rfl) rfl rfl rfl ?_
  refine W.nil ?_
  refine E.thenN ?_
  refine WC.seq ?_
  refine WC.region ?_
  refine W.any (.move rfl) rfl rfl rfl ?_
  have f27 := (f25.le h4_28)
  refine W.ef rfl rfl rfl ?_
  refine Ef.call go24 rfl rfl ((by have h := offer_led (s := s1) 3 0 1 40 16 (by omega) f27; rw [e6] at h; exact h)) ?_
  rintro _ w5_1 ⟨F5_1, rfl, p5_1, g5_1, h5_1⟩
  refine ⟨_, rfl, ?_⟩
  have L28 := L26.chP_then h5_1 (fun i hi => Nat.le_trans L1.size (f27.old hi))
  have f29 := (zq21.le (h4_23.trans h4_28))
  have f30 := (zq22.le (h4_23.trans h4_28))
  have f31 := (zq23.le (h4_23.trans h4_28))
  have zq32n := (show ∀ g, rowOf (some ⟨g1_0, 0, none⟩) 3 = some g → ¬ F4_18 g from zq21g)
  have zq32 := f29.chP h5_1 zq32n
  have zq32g : ∀ g, rowOf (some ⟨g1_0, 0, none⟩) 3 = some g → ¬ F5_1 g := fun g hg hF => (g5_1 _ hF).elim (zq32n g hg) (fun hz => by have := (f29.row hg).2; omega)
  have zq33n := (show ∀ g, rowOf (some ⟨g2_7, 0, none⟩) 2 = some g → ¬ F4_18 g from zq22g)
  have zq33 := f30.chP h5_1 zq33n
  have zq33g : ∀ g, rowOf (some ⟨g2_7, 0, none⟩) 2 = some g → ¬ F5_1 g := fun g hg hF => (g5_1 _ hF).elim (zq33n g hg) (fun hz => by have := (f30.row hg).2; omega)
  have zq34n := (show ∀ g, rowOf (some ⟨g2_12, 0, none⟩) 1 = some g → ¬ F4_18 g from zq23g)
  have zq34 := f31.chP h5_1 zq34n
  have zq34g : ∀ g, rowOf (some ⟨g2_12, 0, none⟩) 1 = some g → ¬ F5_1 g := fun g hg hF => (g5_1 _ hF).elim (zq34n g hg) (fun hz => by have := (f31.row hg).2; omega)
  refine W.any (.dec (.eql rfl rfl) (show _ = true from by decide)) rfl rfl rfl ?_
  refine W.any (.move rfl) rfl rfl rfl ?_
  refine W.rdg (Any.rd (.move rfl) _) rfl rfl rfl (rfl) rfl rfl ?_
  refine W.efg rfl rfl rfl (rfl) rfl rfl ?_
  refine Ef.call go26 rfl rfl ((by have h := held_led (s := s6) 3 0 p5_1; rw [e7] at h; exact h)) ?_
  rintro _ w5_5 ⟨rfl, h5_5⟩
  refine ⟨_, rfl, ?_⟩
  have L35 := L28.trans h5_5
  refine W.rdg (Any.rd (.dec (.eql rfl rfl) (show _ = true from by decide)) _) rfl rfl rfl (rfl) rfl rfl ?_
  refine W.any (.pickT rfl rfl rfl) rfl rfl rfl ?_
  refine W.any (.move rfl) rfl rfl rfl ?_
  refine W.rdg (Any.rd (.move rfl) _) rfl rfl rfl (rfl) rfl rfl ?_
  have f36 := (p5_1.le h5_5)
  refine W.efg rfl rfl rfl (rfl) rfl rfl ?_
  refine Ef.call go15 rfl rfl ((by have h := worth_led (s := s6) 0 f36; rw [e8] at h; exact h)) ?_
  rintro _ w5_10 ⟨rfl, h5_10⟩
  refine ⟨_, rfl, ?_⟩
  have L37 := L35.trans h5_10
  refine W.rdg (Any.rd (.dec (.eql rfl rfl) (show _ = true from by decide)) _) rfl rfl rfl (rfl) rfl rfl ?_
  refine W.any (.pickT rfl rfl rfl) rfl rfl rfl ?_
  refine W.any (.move rfl) rfl rfl rfl ?_
  refine W.rdg (Any.rd (.move rfl) _) rfl rfl rfl (rfl) rfl rfl ?_
  refine W.rdg (Any.rd (.buildA (cells := (pairV (⟨0, 0⟩ : Pair)).toArray) Try.underlying31 sz3 z31 rfl rfl) _) rfl rfl rfl (rfl) rfl rfl ?_
  have f38 := (f36.le h5_10)
  refine W.efg rfl rfl rfl (rfl) rfl rfl ?_
  refine Ef.call go42 rfl rfl ((by have h := close_led (s := s6) 3 (⟨0, 0⟩ : Pair) f38; rw [e9] at h; exact h)) ?_
  rintro _ w5_16 ⟨F5_16, rfl, p5_16, g5_16, h5_16⟩
  refine ⟨_, rfl, ?_⟩
  have L39 := L37.chP_then h5_16 (fun i hi => Nat.le_trans L1.size (f38.old hi))
  have f40 := (zq32.le (h5_5.trans h5_10))
  have f41 := (zq33.le (h5_5.trans h5_10))
  have f42 := (zq34.le (h5_5.trans h5_10))
  have zq43n := (show ∀ g, rowOf (some ⟨g1_0, 0, none⟩) 3 = some g → ¬ F5_1 g from zq32g)
  have zq43 := f40.chP h5_16 zq43n
  have zq43g : ∀ g, rowOf (some ⟨g1_0, 0, none⟩) 3 = some g → ¬ F5_16 g := fun g hg hF => (g5_16 _ hF).elim (zq43n g hg) (fun hz => by have := (f40.row hg).2; omega)
  have zq44n := (show ∀ g, rowOf (some ⟨g2_7, 0, none⟩) 2 = some g → ¬ F5_1 g from zq33g)
  have zq44 := f41.chP h5_16 zq44n
  have zq44g : ∀ g, rowOf (some ⟨g2_7, 0, none⟩) 2 = some g → ¬ F5_16 g := fun g hg hF => (g5_16 _ hF).elim (zq44n g hg) (fun hz => by have := (f41.row hg).2; omega)
  have zq45n := (show ∀ g, rowOf (some ⟨g2_12, 0, none⟩) 1 = some g → ¬ F5_1 g from zq34g)
  have zq45 := f42.chP h5_16 zq45n
  have zq45g : ∀ g, rowOf (some ⟨g2_12, 0, none⟩) 1 = some g → ¬ F5_16 g := fun g hg hF => (g5_16 _ hF).elim (zq45n g hg) (fun hz => by have := (f42.row hg).2; omega)
  refine W.rdg (Any.rd (.dec (.eql rfl rfl) (show _ = true from by decide)) _) rfl rfl rfl (rfl) rfl rfl ?_
  refine W.any (.pickT rfl rfl rfl) rfl rfl rfl ?_
  refine W.any (.move rfl) rfl rfl rfl ?_
  refine W.rdg (Any.rd (.move rfl) _) rfl rfl rfl (rfl) rfl rfl ?_
  refine W.efg rfl rfl rfl (rfl) rfl rfl ?_
  refine Ef.call go27 rfl rfl ((by have h := settle_led (s := s6) 3 0 1 3 p5_16; rw [e10] at h; exact h)) ?_
  rintro _ w5_21 ⟨F5_21, rfl, p5_21, g5_21, h5_21⟩
  refine ⟨_, rfl, ?_⟩
  have L46 := L39.chP_then h5_21 (fun i hi => Nat.le_trans L1.size (p5_16.old hi))
  have zq47n := (show ∀ g, rowOf (some ⟨g1_0, 0, none⟩) 3 = some g → ¬ F5_16 g from zq43g)
  have zq47 := zq43.chP h5_21 zq47n
  have zq47g : ∀ g, rowOf (some ⟨g1_0, 0, none⟩) 3 = some g → ¬ F5_21 g := fun g hg hF => (g5_21 _ hF).elim (zq47n g hg) (fun hz => by have := (zq43.row hg).2; omega)
  have zq48n := (show ∀ g, rowOf (some ⟨g2_7, 0, none⟩) 2 = some g → ¬ F5_16 g from zq44g)
  have zq48 := zq44.chP h5_21 zq48n
  have zq48g : ∀ g, rowOf (some ⟨g2_7, 0, none⟩) 2 = some g → ¬ F5_21 g := fun g hg hF => (g5_21 _ hF).elim (zq48n g hg) (fun hz => by have := (zq44.row hg).2; omega)
  have zq49n := (show ∀ g, rowOf (some ⟨g2_12, 0, none⟩) 1 = some g → ¬ F5_16 g from zq45g)
  have zq49 := zq45.chP h5_21 zq49n
  have zq49g : ∀ g, rowOf (some ⟨g2_12, 0, none⟩) 1 = some g → ¬ F5_21 g := fun g hg hF => (g5_21 _ hF).elim (zq49n g hg) (fun hz => by have := (zq45.row hg).2; omega)
  refine W.rdg (Any.rd (.dec (.eql rfl rfl) (show _ = true from by decide)) _) rfl rfl rfl (rfl) rfl rfl ?_
  refine W.any (.pickT rfl rfl rfl) rfl rfl rfl ?_
  refine W.any (.move rfl) rfl rfl rfl ?_
  refine W.rdg (Any.rd (.move rfl) _) rfl rfl rfl (rfl) rfl rfl ?_
  refine W.efg rfl rfl rfl (rfl) rfl rfl ?_
  refine Ef.call go27 rfl rfl ((by have h := settle_led (s := s6) 3 0 1 2 p5_21; rw [e11] at h; exact h)) ?_
  rintro _ w5_26 ⟨F5_26, rfl, p5_26, g5_26, h5_26⟩
  refine ⟨_, rfl, ?_⟩
  have L50 := L46.chP_then h5_26 (fun i hi => Nat.le_trans L1.size (p5_21.old hi))
  have zq51n := (show ∀ g, rowOf (some ⟨g1_0, 0, none⟩) 3 = some g → ¬ F5_21 g from zq47g)
  have zq51 := zq47.chP h5_26 zq51n
  have zq51g : ∀ g, rowOf (some ⟨g1_0, 0, none⟩) 3 = some g → ¬ F5_26 g := fun g hg hF => (g5_26 _ hF).elim (zq51n g hg) (fun hz => by have := (zq47.row hg).2; omega)
  have zq52n := (show ∀ g, rowOf (some ⟨g2_7, 0, none⟩) 2 = some g → ¬ F5_21 g from zq48g)
  have zq52 := zq48.chP h5_26 zq52n
  have zq52g : ∀ g, rowOf (some ⟨g2_7, 0, none⟩) 2 = some g → ¬ F5_26 g := fun g hg hF => (g5_26 _ hF).elim (zq52n g hg) (fun hz => by have := (zq48.row hg).2; omega)
  have zq53n := (show ∀ g, rowOf (some ⟨g2_12, 0, none⟩) 1 = some g → ¬ F5_21 g from zq49g)
  have zq53 := zq49.chP h5_26 zq53n
  have zq53g : ∀ g, rowOf (some ⟨g2_12, 0, none⟩) 1 = some g → ¬ F5_26 g := fun g hg hF => (g5_26 _ hF).elim (zq53n g hg) (fun hz => by have := (zq49.row hg).2; omega)
  refine W.rdg (Any.rd (.dec (.eql rfl rfl) (show _ = true from by decide)) _) rfl rfl rfl (rfl) rfl rfl ?_
  refine W.any (.pickT rfl rfl rfl) rfl rfl rfl ?_
  refine W.any (.move rfl) rfl rfl rfl ?_
  refine W.rdg (Any.rd (.move rfl) _) rfl rfl rfl (rfl) rfl rfl ?_
  refine W.efg rfl rfl rfl (rfl) rfl rfl ?_
  refine Ef.call go15 rfl rfl ((by have h := worth_led (s := s11) 1 p5_26; rw [e12] at h; exact h)) ?_
  rintro _ w5_31 ⟨rfl, h5_31⟩
  refine ⟨_, rfl, ?_⟩
  have L54 := L50.trans h5_31
  refine W.rdg (Any.rd (.dec (.eql rfl rfl) (show _ = true from by decide)) _) rfl rfl rfl (rfl) rfl rfl ?_
  refine W.any (.pickT rfl rfl rfl) rfl rfl rfl ?_
  refine W.any (.move rfl) rfl rfl rfl ?_
  refine W.rdg (Any.rd (.move rfl) _) rfl rfl rfl (rfl) rfl rfl ?_
  have f55 := (p5_26.le h5_31)
  refine W.efg rfl rfl rfl (rfl) rfl rfl ?_
  refine Ef.call go28 rfl rfl ((by have h := fail_led (s := s11) 3 0 1 f55; rw [e13] at h; exact h)) ?_
  rintro _ w5_36 ⟨F5_36, rfl, p5_36, g5_36, h5_36⟩
  refine ⟨_, rfl, ?_⟩
  have L56 := L54.chP_then h5_36 (fun i hi => Nat.le_trans L1.size (f55.old hi))
  have f57 := (zq51.le h5_31)
  have f58 := (zq52.le h5_31)
  have f59 := (zq53.le h5_31)
  have zq60n := (show ∀ g, rowOf (some ⟨g1_0, 0, none⟩) 3 = some g → ¬ F5_26 g from zq51g)
  have zq60 := f57.chP h5_36 zq60n
  have zq60g : ∀ g, rowOf (some ⟨g1_0, 0, none⟩) 3 = some g → ¬ F5_36 g := fun g hg hF => (g5_36 _ hF).elim (zq60n g hg) (fun hz => by have := (f57.row hg).2; omega)
  have zq61n := (show ∀ g, rowOf (some ⟨g2_7, 0, none⟩) 2 = some g → ¬ F5_26 g from zq52g)
  have zq61 := f58.chP h5_36 zq61n
  have zq61g : ∀ g, rowOf (some ⟨g2_7, 0, none⟩) 2 = some g → ¬ F5_36 g := fun g hg hF => (g5_36 _ hF).elim (zq61n g hg) (fun hz => by have := (f58.row hg).2; omega)
  have zq62n := (show ∀ g, rowOf (some ⟨g2_12, 0, none⟩) 1 = some g → ¬ F5_26 g from zq53g)
  have zq62 := f59.chP h5_36 zq62n
  have zq62g : ∀ g, rowOf (some ⟨g2_12, 0, none⟩) 1 = some g → ¬ F5_36 g := fun g hg hF => (g5_36 _ hF).elim (zq62n g hg) (fun hz => by have := (f59.row hg).2; omega)
  refine W.rdg (Any.rd (.dec (.eql rfl rfl) (show _ = true from by decide)) _) rfl rfl rfl (rfl) rfl rfl ?_
  refine W.any (.pickT rfl rfl rfl) rfl rfl rfl ?_
  refine W.any (.assign rfl) rfl rfl rfl ?_
  refine W.nil ?_
  refine E.thenN ?_
  refine WC.seq ?_
  refine WC.region ?_
  refine W.any (.move rfl) rfl rfl rfl ?_
  refine W.any (.buildA (cells := (pairV (⟨1, 2⟩ : Pair)).toArray) Try.underlying31 sz3 z31 rfl rfl) rfl rfl rfl ?_
  refine W.any (.buildA (cells := (pairV (⟨30, 10⟩ : Pair)).toArray) Try.underlying31 sz3 z31 rfl rfl) rfl rfl rfl ?_
  refine W.any (.buildP (seatV (⟨7, 1, 2, 30, 10⟩ : Seat)) pl33 z33 rfl rfl) rfl rfl rfl ?_
  refine W.ef rfl rfl rfl ?_
  refine Ef.call go40 rfl rfl ((by have h := open_led (s := s11) (⟨7, 1, 2, 30, 10⟩ : Seat) 0 p5_36; rw [e14] at h; exact h)) ?_
  rintro _ w6_4 ⟨F6_4, rfl, p6_4, g6_4, h6_4⟩
  refine ⟨_, rfl, ?_⟩
  have L63 := L56.chP_then h6_4 (fun i hi => Nat.le_trans L1.size (p5_36.old hi))
  have zq64n := (show ∀ g, rowOf (some ⟨g1_0, 0, none⟩) 3 = some g → ¬ F5_36 g from zq60g)
  have zq64 := zq60.chP h6_4 zq64n
  have zq64g : ∀ g, rowOf (some ⟨g1_0, 0, none⟩) 3 = some g → ¬ F6_4 g := fun g hg hF => (g6_4 _ hF).elim (zq64n g hg) (fun hz => by have := (zq60.row hg).2; omega)
  have zq65n := (show ∀ g, rowOf (some ⟨g2_7, 0, none⟩) 2 = some g → ¬ F5_36 g from zq61g)
  have zq65 := zq61.chP h6_4 zq65n
  have zq65g : ∀ g, rowOf (some ⟨g2_7, 0, none⟩) 2 = some g → ¬ F6_4 g := fun g hg hF => (g6_4 _ hF).elim (zq65n g hg) (fun hz => by have := (zq61.row hg).2; omega)
  have zq66n := (show ∀ g, rowOf (some ⟨g2_12, 0, none⟩) 1 = some g → ¬ F5_36 g from zq62g)
  have zq66 := zq62.chP h6_4 zq66n
  have zq66g : ∀ g, rowOf (some ⟨g2_12, 0, none⟩) 1 = some g → ¬ F6_4 g := fun g hg hF => (g6_4 _ hF).elim (zq66n g hg) (fun hz => by have := (zq62.row hg).2; omega)
  refine W.any (.dec (.eql rfl rfl) (show _ = true from by decide)) rfl rfl rfl ?_
  refine W.any (.move rfl) rfl rfl rfl ?_
  refine W.rdg (Any.rd (.move rfl) _) rfl rfl rfl (rfl) rfl rfl ?_
  refine W.rdg (Any.rd (.buildP (legV (⟨3, 0, 12⟩ : Leg)) pl37 z37 rfl rfl) _) rfl rfl rfl (rfl) rfl rfl ?_
  refine W.rdg (Any.rd (.buildP (legV (⟨7, 0, 11⟩ : Leg)) pl37 z37 rfl rfl) _) rfl rfl rfl (rfl) rfl rfl ?_
  refine W.efg rfl rfl rfl (rfl) rfl rfl ?_
  refine Ef.buildSliceV (len := 2) [_, _] Try.underlying24 el37 rfl (by simp [Value.cells, legV_row.len]) rfl (by decide) (by decide) ?_
  intro g6_10 w6_10 hg6_10 b6_10 h6_10
  have L67 := L63.trans h6_10
  have b6_10 : Blk w6_10 g6_10 37 (([(⟨3, 0, 12⟩ : Leg), (⟨7, 0, 11⟩ : Leg)]).map legV).flatten.toArray := b6_10
  have o6_10 : OVec w6_10 w6_4.heap.size 37 legV 3 (some ⟨g6_10, 0, none⟩) 2 2 ([(⟨3, 0, 12⟩ : Leg), (⟨7, 0, 11⟩ : Leg)]) := b6_10.ovec hg6_10 legV_row rfl rfl (by decide)
  have f68 := (p6_4.le h6_10)
  refine W.efg rfl rfl rfl (rfl) rfl rfl ?_
  refine Ef.call go13 rfl rfl ((by have h := pay_led (s := s14) (cg := 2) f68 o6_10.vec (by omega) (fun q h0 h1 h2 => (show ∀ g, rowOf (some ⟨g6_10, 0, none⟩) 2 = some g → ¬ F6_4 g from (fun g hg hF => by have := p6_4.lt hF;  have := (o6_10.row hg).1; omega)) q (rowOf_of h0 (by have := o6_10.cap; omega))); rw [e15] at h; exact h)) ?_
  rintro _ w6_11 ⟨F6_11, rfl, p6_11, g6_11, h6_11⟩
  refine ⟨_, rfl, ?_⟩
  have L69 := L67.chP_then h6_11 (fun i hi => Nat.le_trans L1.size (f68.old hi))
  have f70 := (zq64.le h6_10)
  have f71 := (zq65.le h6_10)
  have f72 := (zq66.le h6_10)
  have zq73n := (show ∀ g, rowOf (some ⟨g1_0, 0, none⟩) 3 = some g → ¬ F6_4 g from zq64g)
  have zq73 := f70.chP h6_11 zq73n
  have zq73g : ∀ g, rowOf (some ⟨g1_0, 0, none⟩) 3 = some g → ¬ F6_11 g := fun g hg hF => (g6_11 _ hF).elim (zq73n g hg) (fun hz => by have := (f70.row hg).2; omega)
  have zq74n := (show ∀ g, rowOf (some ⟨g2_7, 0, none⟩) 2 = some g → ¬ F6_4 g from zq65g)
  have zq74 := f71.chP h6_11 zq74n
  have zq74g : ∀ g, rowOf (some ⟨g2_7, 0, none⟩) 2 = some g → ¬ F6_11 g := fun g hg hF => (g6_11 _ hF).elim (zq74n g hg) (fun hz => by have := (f71.row hg).2; omega)
  have zq75n := (show ∀ g, rowOf (some ⟨g2_12, 0, none⟩) 1 = some g → ¬ F6_4 g from zq66g)
  have zq75 := f72.chP h6_11 zq75n
  have zq75g : ∀ g, rowOf (some ⟨g2_12, 0, none⟩) 1 = some g → ¬ F6_11 g := fun g hg hF => (g6_11 _ hF).elim (zq75n g hg) (fun hz => by have := (f72.row hg).2; omega)
  have zq76n := (show ∀ g, rowOf (some ⟨g6_10, 0, none⟩) 2 = some g → ¬ F6_4 g from (fun g hg hF => by have := p6_4.lt hF;  have := (o6_10.row hg).1; omega))
  have zq76 := o6_10.chP h6_11 zq76n
  have zq76g : ∀ g, rowOf (some ⟨g6_10, 0, none⟩) 2 = some g → ¬ F6_11 g := fun g hg hF => (g6_11 _ hF).elim (zq76n g hg) (fun hz => by have := (o6_10.row hg).2; omega)
  refine W.rdg (Any.rd (.dec (.eql rfl rfl) (show _ = true from by decide)) _) rfl rfl rfl (rfl) rfl rfl ?_
  refine W.any (.pickT rfl rfl rfl) rfl rfl rfl ?_
  refine W.any (.move rfl) rfl rfl rfl ?_
  refine W.rdg (Any.rd (.move rfl) _) rfl rfl rfl (rfl) rfl rfl ?_
  refine W.efg rfl rfl rfl (rfl) rfl rfl ?_
  refine Ef.call go15 rfl rfl ((by have h := worth_led (s := s15) 2 p6_11; rw [e16] at h; exact h)) ?_
  rintro _ w6_16 ⟨rfl, h6_16⟩
  refine ⟨_, rfl, ?_⟩
  have L77 := L69.trans h6_16
  refine W.rdg (Any.rd (.dec (.eql rfl rfl) (show _ = true from by decide)) _) rfl rfl rfl (rfl) rfl rfl ?_
  refine W.any (.pickT rfl rfl rfl) rfl rfl rfl ?_
  refine W.any (.move rfl) rfl rfl rfl ?_
  refine W.rdg (Any.rd (.move rfl) _) rfl rfl rfl (rfl) rfl rfl ?_
  refine W.rdg (Any.rd (.buildP (legV (⟨3, 0, 1⟩ : Leg)) pl37 z37 rfl rfl) _) rfl rfl rfl (rfl) rfl rfl ?_
  refine W.rdg (Any.rd (.buildP (legV (⟨7, 0, 99⟩ : Leg)) pl37 z37 rfl rfl) _) rfl rfl rfl (rfl) rfl rfl ?_
  refine W.efg rfl rfl rfl (rfl) rfl rfl ?_
  refine Ef.buildSliceV (len := 2) [_, _] Try.underlying24 el37 rfl (by simp [Value.cells, legV_row.len]) rfl (by decide) (by decide) ?_
  intro g6_23 w6_23 hg6_23 b6_23 h6_23
  have L78 := L77.trans h6_23
  have b6_23 : Blk w6_23 g6_23 37 (([(⟨3, 0, 1⟩ : Leg), (⟨7, 0, 99⟩ : Leg)]).map legV).flatten.toArray := b6_23
  have o6_23 : OVec w6_23 w6_16.heap.size 37 legV 3 (some ⟨g6_23, 0, none⟩) 2 2 ([(⟨3, 0, 1⟩ : Leg), (⟨7, 0, 99⟩ : Leg)]) := b6_23.ovec hg6_23 legV_row rfl rfl (by decide)
  have f79 := (p6_11.le (h6_16.trans h6_23))
  refine W.efg rfl rfl rfl (rfl) rfl rfl ?_
  refine Ef.call go13 rfl rfl ((by have h := pay_led (s := s15) (cg := 2) f79 o6_23.vec (by omega) (fun q h0 h1 h2 => (show ∀ g, rowOf (some ⟨g6_23, 0, none⟩) 2 = some g → ¬ F6_11 g from (fun g hg hF => by have := p6_11.lt hF; have := h6_16.size; have := (o6_23.row hg).1; omega)) q (rowOf_of h0 (by have := o6_23.cap; omega))); rw [e17] at h; exact h)) ?_
  rintro _ w6_24 ⟨F6_24, rfl, p6_24, g6_24, h6_24⟩
  refine ⟨_, rfl, ?_⟩
  have L80 := L78.chP_then h6_24 (fun i hi => Nat.le_trans L1.size (f79.old hi))
  have f81 := (zq73.le (h6_16.trans h6_23))
  have f82 := (zq74.le (h6_16.trans h6_23))
  have f83 := (zq75.le (h6_16.trans h6_23))
  have f84 := (zq76.le (h6_16.trans h6_23))
  have zq85n := (show ∀ g, rowOf (some ⟨g1_0, 0, none⟩) 3 = some g → ¬ F6_11 g from zq73g)
  have zq85 := f81.chP h6_24 zq85n
  have zq85g : ∀ g, rowOf (some ⟨g1_0, 0, none⟩) 3 = some g → ¬ F6_24 g := fun g hg hF => (g6_24 _ hF).elim (zq85n g hg) (fun hz => by have := (f81.row hg).2; omega)
  have zq86n := (show ∀ g, rowOf (some ⟨g2_7, 0, none⟩) 2 = some g → ¬ F6_11 g from zq74g)
  have zq86 := f82.chP h6_24 zq86n
  have zq86g : ∀ g, rowOf (some ⟨g2_7, 0, none⟩) 2 = some g → ¬ F6_24 g := fun g hg hF => (g6_24 _ hF).elim (zq86n g hg) (fun hz => by have := (f82.row hg).2; omega)
  have zq87n := (show ∀ g, rowOf (some ⟨g2_12, 0, none⟩) 1 = some g → ¬ F6_11 g from zq75g)
  have zq87 := f83.chP h6_24 zq87n
  have zq87g : ∀ g, rowOf (some ⟨g2_12, 0, none⟩) 1 = some g → ¬ F6_24 g := fun g hg hF => (g6_24 _ hF).elim (zq87n g hg) (fun hz => by have := (f83.row hg).2; omega)
  have zq88n := (show ∀ g, rowOf (some ⟨g6_10, 0, none⟩) 2 = some g → ¬ F6_11 g from zq76g)
  have zq88 := f84.chP h6_24 zq88n
  have zq88g : ∀ g, rowOf (some ⟨g6_10, 0, none⟩) 2 = some g → ¬ F6_24 g := fun g hg hF => (g6_24 _ hF).elim (zq88n g hg) (fun hz => by have := (f84.row hg).2; omega)
  have zq89n := (show ∀ g, rowOf (some ⟨g6_23, 0, none⟩) 2 = some g → ¬ F6_11 g from (fun g hg hF => by have := p6_11.lt hF; have := h6_16.size; have := (o6_23.row hg).1; omega))
  have zq89 := o6_23.chP h6_24 zq89n
  have zq89g : ∀ g, rowOf (some ⟨g6_23, 0, none⟩) 2 = some g → ¬ F6_24 g := fun g hg hF => (g6_24 _ hF).elim (zq89n g hg) (fun hz => by have := (o6_23.row hg).2; omega)
  refine W.rdg (Any.rd (.dec (.eql rfl rfl) (show _ = true from by decide)) _) rfl rfl rfl (rfl) rfl rfl ?_
  refine W.any (.pickT rfl rfl rfl) rfl rfl rfl ?_
  refine W.any (.move rfl) rfl rfl rfl ?_
  refine W.rdg (Any.rd (.move rfl) _) rfl rfl rfl (rfl) rfl rfl ?_
  refine W.efg rfl rfl rfl (rfl) rfl rfl ?_
  refine Ef.call go15 rfl rfl ((by have h := worth_led (s := s15) 0 p6_24; rw [e18] at h; exact h)) ?_
  rintro _ w6_29 ⟨rfl, h6_29⟩
  refine ⟨_, rfl, ?_⟩
  have L90 := L80.trans h6_29
  refine W.rdg (Any.rd (.dec (.eql rfl rfl) (show _ = true from by decide)) _) rfl rfl rfl (rfl) rfl rfl ?_
  refine W.any (.pickT rfl rfl rfl) rfl rfl rfl ?_
  refine W.any (.assign rfl) rfl rfl rfl ?_
  refine W.nil ?_
  refine E.thenN ?_
  refine WC.seq ?_
  refine WC.region ?_
  refine W.any (.move rfl) rfl rfl rfl ?_
  refine W.ef rfl rfl rfl ?_
  refine Ef.buildSliceV (len := 2) [_, _] Try.underlying41 el3 rfl (by simp [Value.cells]) rfl (by decide) (by decide) ?_
  intro g7_1 w7_1 hg7_1 b7_1 h7_1
  have L91 := L90.trans h7_1
  have b7_1 : Blk w7_1 g7_1 3 (([3, 7]).map iv).flatten.toArray := b7_1
  have o7_1 : OVec w7_1 w6_29.heap.size 3 iv 1 (some ⟨g7_1, 0, none⟩) 2 2 ([3, 7]) := b7_1.ovec hg7_1 iv_row rfl rfl (by decide)
  refine W.any (.buildA (cells := (pairV (⟨0, 2⟩ : Pair)).toArray) Try.underlying31 sz3 z31 rfl rfl) rfl rfl rfl ?_
  refine W.any (.buildA (cells := (pairV (⟨8, 21⟩ : Pair)).toArray) Try.underlying31 sz3 z31 rfl rfl) rfl rfl rfl ?_
  refine W.any (.buildP (seatV (⟨3, 0, 2, 8, 21⟩ : Seat)) pl33 z33 rfl rfl) rfl rfl rfl ?_
  refine W.any (.buildA (cells := (pairV (⟨1, 0⟩ : Pair)).toArray) Try.underlying31 sz3 z31 rfl rfl) rfl rfl rfl ?_
  refine W.any (.buildA (cells := (pairV (⟨70, 0⟩ : Pair)).toArray) Try.underlying31 sz3 z31 rfl rfl) rfl rfl rfl ?_
  refine W.any (.buildP (seatV (⟨9, 1, 0, 70, 0⟩ : Seat)) pl33 z33 rfl rfl) rfl rfl rfl ?_
  refine W.ef rfl rfl rfl ?_
  refine Ef.buildSliceV (len := 2) [_, _] Try.underlying50 el33 rfl (by simp [Value.cells, seatV_row.len]) rfl (by decide) (by decide) ?_
  intro g7_8 w7_8 hg7_8 b7_8 h7_8
  have L92 := L91.trans h7_8
  have b7_8 : Blk w7_8 g7_8 33 (([(⟨3, 0, 2, 8, 21⟩ : Seat), (⟨9, 1, 0, 70, 0⟩ : Seat)]).map seatV).flatten.toArray := b7_8
  have o7_8 : OVec w7_8 w7_1.heap.size 33 seatV 5 (some ⟨g7_8, 0, none⟩) 2 2 ([(⟨3, 0, 2, 8, 21⟩ : Seat), (⟨9, 1, 0, 70, 0⟩ : Seat)]) := b7_8.ovec hg7_8 seatV_row rfl rfl (by decide)
  refine W.ef rfl rfl rfl ?_
  refine Ef.buildSliceV (len := 3) [_, _, _] Try.underlying41 el3 rfl (by simp [Value.cells]) rfl (by decide) (by decide) ?_
  intro g7_9 w7_9 hg7_9 b7_9 h7_9
  have L93 := L92.trans h7_9
  have b7_9 : Blk w7_9 g7_9 3 (([0, 1, 0]).map iv).flatten.toArray := b7_9
  have o7_9 : OVec w7_9 w7_8.heap.size 3 iv 1 (some ⟨g7_9, 0, none⟩) 3 3 ([0, 1, 0]) := b7_9.ovec hg7_9 iv_row rfl rfl (by decide)
  have f94 := (p6_24.le (h6_29.trans (h7_1.trans (h7_8.trans h7_9))))
  have f95 := (o7_1.le (h7_8.trans h7_9))
  have f96 := (o7_8.le h7_9)
  refine W.ef rfl rfl rfl ?_
  refine Ef.call go43 rfl rfl ((by have h := cut_led (s := s15) (co := 2) (cS := 2) (cf := 3) f94 f95.vec f96.vec o7_9.vec (by omega) (by omega) (by omega) (fun q h0 h1 h2 => (show ∀ g, rowOf (some ⟨g7_1, 0, none⟩) 2 = some g → ¬ F6_24 g from (fun g hg hF => by have := p6_24.lt hF; have := h6_29.size; have := (f95.row hg).1; omega)) q (rowOf_of h0 (by have := f95.cap; omega))) (fun q h0 h1 h2 => (show ∀ g, rowOf (some ⟨g7_8, 0, none⟩) 2 = some g → ¬ F6_24 g from (fun g hg hF => by have := p6_24.lt hF; have := h6_29.size; have := h7_1.size; have := (f96.row hg).1; omega)) q (rowOf_of h0 (by have := f96.cap; omega))) (fun q h0 h1 h2 => (show ∀ g, rowOf (some ⟨g7_9, 0, none⟩) 3 = some g → ¬ F6_24 g from (fun g hg hF => by have := p6_24.lt hF; have := h6_29.size; have := h7_1.size; have := h7_8.size; have := (o7_9.row hg).1; omega)) q (rowOf_of h0 (by have := o7_9.cap; omega))); rw [e19] at h; exact h)) ?_
  rintro _ w7_10 ⟨F7_10, rfl, p7_10, g7_10, h7_10⟩
  refine ⟨_, rfl, ?_⟩
  have L97 := L93.chP_then h7_10 (fun i hi => Nat.le_trans L1.size (f94.old hi))
  have f98 := (zq85.le (h6_29.trans (h7_1.trans (h7_8.trans h7_9))))
  have f99 := (zq86.le (h6_29.trans (h7_1.trans (h7_8.trans h7_9))))
  have f100 := (zq87.le (h6_29.trans (h7_1.trans (h7_8.trans h7_9))))
  have f101 := (zq88.le (h6_29.trans (h7_1.trans (h7_8.trans h7_9))))
  have f102 := (zq89.le (h6_29.trans (h7_1.trans (h7_8.trans h7_9))))
  have zq103n := (show ∀ g, rowOf (some ⟨g1_0, 0, none⟩) 3 = some g → ¬ F6_24 g from zq85g)
  have zq103 := f98.chP h7_10 zq103n
  have zq103g : ∀ g, rowOf (some ⟨g1_0, 0, none⟩) 3 = some g → ¬ F7_10 g := fun g hg hF => (g7_10 _ hF).elim (zq103n g hg) (fun hz => by have := (f98.row hg).2; omega)
  have zq104n := (show ∀ g, rowOf (some ⟨g2_7, 0, none⟩) 2 = some g → ¬ F6_24 g from zq86g)
  have zq104 := f99.chP h7_10 zq104n
  have zq104g : ∀ g, rowOf (some ⟨g2_7, 0, none⟩) 2 = some g → ¬ F7_10 g := fun g hg hF => (g7_10 _ hF).elim (zq104n g hg) (fun hz => by have := (f99.row hg).2; omega)
  have zq105n := (show ∀ g, rowOf (some ⟨g2_12, 0, none⟩) 1 = some g → ¬ F6_24 g from zq87g)
  have zq105 := f100.chP h7_10 zq105n
  have zq105g : ∀ g, rowOf (some ⟨g2_12, 0, none⟩) 1 = some g → ¬ F7_10 g := fun g hg hF => (g7_10 _ hF).elim (zq105n g hg) (fun hz => by have := (f100.row hg).2; omega)
  have zq106n := (show ∀ g, rowOf (some ⟨g6_10, 0, none⟩) 2 = some g → ¬ F6_24 g from zq88g)
  have zq106 := f101.chP h7_10 zq106n
  have zq106g : ∀ g, rowOf (some ⟨g6_10, 0, none⟩) 2 = some g → ¬ F7_10 g := fun g hg hF => (g7_10 _ hF).elim (zq106n g hg) (fun hz => by have := (f101.row hg).2; omega)
  have zq107n := (show ∀ g, rowOf (some ⟨g6_23, 0, none⟩) 2 = some g → ¬ F6_24 g from zq89g)
  have zq107 := f102.chP h7_10 zq107n
  have zq107g : ∀ g, rowOf (some ⟨g6_23, 0, none⟩) 2 = some g → ¬ F7_10 g := fun g hg hF => (g7_10 _ hF).elim (zq107n g hg) (fun hz => by have := (f102.row hg).2; omega)
  have zq108n := (show ∀ g, rowOf (some ⟨g7_1, 0, none⟩) 2 = some g → ¬ F6_24 g from (fun g hg hF => by have := p6_24.lt hF; have := h6_29.size; have := (f95.row hg).1; omega))
  have zq108 := f95.chP h7_10 zq108n
  have zq108g : ∀ g, rowOf (some ⟨g7_1, 0, none⟩) 2 = some g → ¬ F7_10 g := fun g hg hF => (g7_10 _ hF).elim (zq108n g hg) (fun hz => by have := (f95.row hg).2; omega)
  have zq109n := (show ∀ g, rowOf (some ⟨g7_8, 0, none⟩) 2 = some g → ¬ F6_24 g from (fun g hg hF => by have := p6_24.lt hF; have := h6_29.size; have := h7_1.size; have := (f96.row hg).1; omega))
  have zq109 := f96.chP h7_10 zq109n
  have zq109g : ∀ g, rowOf (some ⟨g7_8, 0, none⟩) 2 = some g → ¬ F7_10 g := fun g hg hF => (g7_10 _ hF).elim (zq109n g hg) (fun hz => by have := (f96.row hg).2; omega)
  have zq110n := (show ∀ g, rowOf (some ⟨g7_9, 0, none⟩) 3 = some g → ¬ F6_24 g from (fun g hg hF => by have := p6_24.lt hF; have := h6_29.size; have := h7_1.size; have := h7_8.size; have := (o7_9.row hg).1; omega))
  have zq110 := o7_9.chP h7_10 zq110n
  have zq110g : ∀ g, rowOf (some ⟨g7_9, 0, none⟩) 3 = some g → ¬ F7_10 g := fun g hg hF => (g7_10 _ hF).elim (zq110n g hg) (fun hz => by have := (o7_9.row hg).2; omega)
  refine W.any (.dec (.eql rfl rfl) (show _ = true from by decide)) rfl rfl rfl ?_
  refine W.any (.move rfl) rfl rfl rfl ?_
  refine W.rdg (Any.rd (.move rfl) _) rfl rfl rfl (rfl) rfl rfl ?_
  refine W.rdg (Any.rd (.buildA (cells := (pairV (⟨(-20), 30⟩ : Pair)).toArray) Try.underlying31 sz3 z31 rfl rfl) _) rfl rfl rfl (rfl) rfl rfl ?_
  refine W.rdg (Any.rd (.buildA (cells := (pairV (⟨2, 0⟩ : Pair)).toArray) Try.underlying31 sz3 z31 rfl rfl) _) rfl rfl rfl (rfl) rfl rfl ?_
  refine W.efg rfl rfl rfl (rfl) rfl rfl ?_
  refine Ef.call go44 rfl rfl ((by have h := splice_led (s := s19) 9 (⟨(-20), 30⟩ : Pair) (⟨2, 0⟩ : Pair) (by intro k hk; have : k = 0 ∨ k = 1 := (by omega); rcases this with rfl | rfl <;> simp [Pair.ix]) p7_10; rw [e20] at h; exact h)) ?_
  rintro _ w7_16 ⟨F7_16, rfl, p7_16, g7_16, h7_16⟩
  refine ⟨_, rfl, ?_⟩
  have L111 := L97.chP_then h7_16 (fun i hi => Nat.le_trans L1.size (p7_10.old hi))
  have zq112n := (show ∀ g, rowOf (some ⟨g1_0, 0, none⟩) 3 = some g → ¬ F7_10 g from zq103g)
  have zq112 := zq103.chP h7_16 zq112n
  have zq112g : ∀ g, rowOf (some ⟨g1_0, 0, none⟩) 3 = some g → ¬ F7_16 g := fun g hg hF => (g7_16 _ hF).elim (zq112n g hg) (fun hz => by have := (zq103.row hg).2; omega)
  have zq113n := (show ∀ g, rowOf (some ⟨g2_7, 0, none⟩) 2 = some g → ¬ F7_10 g from zq104g)
  have zq113 := zq104.chP h7_16 zq113n
  have zq113g : ∀ g, rowOf (some ⟨g2_7, 0, none⟩) 2 = some g → ¬ F7_16 g := fun g hg hF => (g7_16 _ hF).elim (zq113n g hg) (fun hz => by have := (zq104.row hg).2; omega)
  have zq114n := (show ∀ g, rowOf (some ⟨g2_12, 0, none⟩) 1 = some g → ¬ F7_10 g from zq105g)
  have zq114 := zq105.chP h7_16 zq114n
  have zq114g : ∀ g, rowOf (some ⟨g2_12, 0, none⟩) 1 = some g → ¬ F7_16 g := fun g hg hF => (g7_16 _ hF).elim (zq114n g hg) (fun hz => by have := (zq105.row hg).2; omega)
  have zq115n := (show ∀ g, rowOf (some ⟨g6_10, 0, none⟩) 2 = some g → ¬ F7_10 g from zq106g)
  have zq115 := zq106.chP h7_16 zq115n
  have zq115g : ∀ g, rowOf (some ⟨g6_10, 0, none⟩) 2 = some g → ¬ F7_16 g := fun g hg hF => (g7_16 _ hF).elim (zq115n g hg) (fun hz => by have := (zq106.row hg).2; omega)
  have zq116n := (show ∀ g, rowOf (some ⟨g6_23, 0, none⟩) 2 = some g → ¬ F7_10 g from zq107g)
  have zq116 := zq107.chP h7_16 zq116n
  have zq116g : ∀ g, rowOf (some ⟨g6_23, 0, none⟩) 2 = some g → ¬ F7_16 g := fun g hg hF => (g7_16 _ hF).elim (zq116n g hg) (fun hz => by have := (zq107.row hg).2; omega)
  have zq117n := (show ∀ g, rowOf (some ⟨g7_1, 0, none⟩) 2 = some g → ¬ F7_10 g from zq108g)
  have zq117 := zq108.chP h7_16 zq117n
  have zq117g : ∀ g, rowOf (some ⟨g7_1, 0, none⟩) 2 = some g → ¬ F7_16 g := fun g hg hF => (g7_16 _ hF).elim (zq117n g hg) (fun hz => by have := (zq108.row hg).2; omega)
  have zq118n := (show ∀ g, rowOf (some ⟨g7_8, 0, none⟩) 2 = some g → ¬ F7_10 g from zq109g)
  have zq118 := zq109.chP h7_16 zq118n
  have zq118g : ∀ g, rowOf (some ⟨g7_8, 0, none⟩) 2 = some g → ¬ F7_16 g := fun g hg hF => (g7_16 _ hF).elim (zq118n g hg) (fun hz => by have := (zq109.row hg).2; omega)
  have zq119n := (show ∀ g, rowOf (some ⟨g7_9, 0, none⟩) 3 = some g → ¬ F7_10 g from zq110g)
  have zq119 := zq110.chP h7_16 zq119n
  have zq119g : ∀ g, rowOf (some ⟨g7_9, 0, none⟩) 3 = some g → ¬ F7_16 g := fun g hg hF => (g7_16 _ hF).elim (zq119n g hg) (fun hz => by have := (zq110.row hg).2; omega)
  refine W.rdg (Any.rd (.dec (.eql rfl rfl) (show _ = true from by decide)) _) rfl rfl rfl (rfl) rfl rfl ?_
  refine W.any (.pickT rfl rfl rfl) rfl rfl rfl ?_
  refine W.any (.move rfl) rfl rfl rfl ?_
  refine W.rdg (Any.rd (.move rfl) _) rfl rfl rfl (rfl) rfl rfl ?_
  refine W.efg rfl rfl rfl (rfl) rfl rfl ?_
  refine Ef.call go16 rfl rfl ((by have h := own_led (s := s20) 1 p7_16; rw [e21] at h; exact h)) ?_
  rintro _ w7_21 ⟨rfl, h7_21⟩
  refine ⟨_, rfl, ?_⟩
  have L120 := L111.trans h7_21
  refine W.rdg (Any.rd (.dec (.eql rfl rfl) (show _ = true from by decide)) _) rfl rfl rfl (rfl) rfl rfl ?_
  refine W.any (.pickT rfl rfl rfl) rfl rfl rfl ?_
  refine W.any (.move rfl) rfl rfl rfl ?_
  refine W.rdg (Any.rd (.move rfl) _) rfl rfl rfl (rfl) rfl rfl ?_
  have f121 := (p7_16.le h7_21)
  refine W.efg rfl rfl rfl (rfl) rfl rfl ?_
  refine Ef.call go16 rfl rfl ((by have h := own_led (s := s20) 0 f121; rw [e22] at h; exact h)) ?_
  rintro _ w7_26 ⟨rfl, h7_26⟩
  refine ⟨_, rfl, ?_⟩
  have L122 := L120.trans h7_26
  refine W.rdg (Any.rd (.dec (.eql rfl rfl) (show _ = true from by decide)) _) rfl rfl rfl (rfl) rfl rfl ?_
  refine W.any (.pickT rfl rfl rfl) rfl rfl rfl ?_
  refine W.any (.assign rfl) rfl rfl rfl ?_
  refine W.nil ?_
  refine E.thenN ?_
  refine WC.seq ?_
  refine WC.region ?_
  refine W.any (.move rfl) rfl rfl rfl ?_
  have f123 := (f121.le h7_26)
  refine W.ef rfl rfl rfl ?_
  refine Ef.call go14 rfl rfl ((by have h := seat_led (s := s20) 9 f123; rw [f1, f2] at h; exact h)) ?_
  rintro _ w8_1 ⟨rfl, h8_1⟩
  refine ⟨_, rfl, ?_⟩
  have L124 := L122.trans h8_1
  refine W.any (.move rfl) rfl rfl rfl ?_
  refine W.any (.extract (v := .agg (seatV (⟨9, 1, 0, 50, 30⟩ : Seat)).toArray) rfl rfl) rfl rfl rfl ?_
  refine W.any (.extract (v := .bool true) rfl rfl) rfl rfl rfl ?_
  refine W.ef rfl rfl rfl ?_
  refine Ef.allocA z33 ?_
  intro g8_5 w8_5 hg8_5 b8_5 h8_5
  have L125 := L124.trans h8_5
  have b8_5 : Blk w8_5 g8_5 33 (seatV noSeat).toArray := b8_5
  refine W.ef0 rfl rfl ?_
  refine Ef.storeAll sz33 (by rfl) rfl rfl b8_5 (by rfl) (seatV_row.one (⟨9, 1, 0, 50, 30⟩ : Seat)) ?_
  intro w8_6 b8_6 h8_6
  have b8_6 : Blk w8_6 g8_5 33 (seatV (⟨9, 1, 0, 50, 30⟩ : Seat)).toArray := b8_6
  have L126 : Le w w8_6 := L125.then_ h8_6 (fun q hq => by cases hq; exact Nat.le_trans L124.size hg8_5)
  refine W.any (.assign rfl) rfl rfl rfl ?_
  refine W.nil ?_
  refine E.thenN ?_
  refine WC.seq ?_
  refine WC.region ?_
  refine W.any (.move rfl) rfl rfl rfl ?_
  refine W.any (.move rfl) rfl rfl rfl ?_
  refine W.rdg (Any.rd (.move rfl) _) rfl rfl rfl (rfl) rfl rfl ?_
  refine W.any (.pickT rfl rfl rfl) rfl rfl rfl ?_
  refine W.any (.move rfl) rfl rfl rfl ?_
  refine W.rdg (Any.rd (.move rfl) _) rfl rfl rfl (rfl) rfl rfl ?_
  refine W.any (.pickT rfl rfl rfl) rfl rfl rfl ?_
  refine W.any (.move rfl) rfl rfl rfl ?_
  refine W.rdg (Any.rd (.move rfl) _) rfl rfl rfl (rfl) rfl rfl ?_
  refine W.any (.pickT rfl rfl rfl) rfl rfl rfl ?_
  refine W.any (.move rfl) rfl rfl rfl ?_
  refine W.rdg (Any.rd (.move rfl) _) rfl rfl rfl (rfl) rfl rfl ?_
  refine W.any (.pickT rfl rfl rfl) rfl rfl rfl ?_
  refine W.any (.move rfl) rfl rfl rfl ?_
  refine W.rdg (Any.rd (.field0 fa33_2 rfl) _) rfl rfl rfl (rfl) rfl rfl ?_
  refine W.rdg (.bpart [.int .i64 ((⟨9, 1, 0, 50, 30⟩ : Seat).h0), .int .i64 ((⟨9, 1, 0, 50, 30⟩ : Seat).h1)] ag31 rfl (by decide) rfl b8_6 rfl) rfl rfl rfl (rfl) rfl rfl ?_
  refine W.rdg (Any.rd (.buildA (cells := (pairV (⟨50, 30⟩ : Pair)).toArray) Try.underlying31 sz3 z31 rfl rfl) _) rfl rfl rfl (rfl) rfl rfl ?_
  refine W.rdg (Any.rd (.dec (.eqA eg31 rfl rfl (eqv_pairV (d := 9998) (⟨(⟨9, 1, 0, 50, 30⟩ : Seat).h0, (⟨9, 1, 0, 50, 30⟩ : Seat).h1⟩ : Pair) (⟨50, 30⟩ : Pair))) (show _ = true from by decide)) _) rfl rfl rfl (rfl) rfl rfl ?_
  refine W.any (.pickT rfl rfl rfl) rfl rfl rfl ?_
  refine W.any (.move rfl) rfl rfl rfl ?_
  refine W.rdg (Any.rd (.move rfl) _) rfl rfl rfl (rfl) rfl rfl ?_
  have f127 := ((f123.le (h8_1.trans h8_5)).ch h8_6 (fun q hqq hF => by cases hqq; have := f123.lt hF; have := h8_1.size; have := hg8_5; omega))
  refine W.efg rfl rfl rfl (rfl) rfl rfl ?_
  refine Ef.call go23 rfl rfl ((by have h := seats_led (s := s20) f127; rw [f3] at h; exact h)) ?_
  rintro _ w9_21 ⟨A9_21, c9_21, rfl, o9_21, h9_21⟩
  refine ⟨_, rfl, ?_⟩
  have L128 := L126.trans h9_21
  refine W.rdg (.len Try.underlying50 rfl) rfl rfl rfl (rfl) rfl rfl ?_
  refine W.rdg (Any.rd (.dec (.eql rfl rfl) (show _ = true from by decide)) _) rfl rfl rfl (rfl) rfl rfl ?_
  refine W.any (.pickT rfl rfl rfl) rfl rfl rfl ?_
  refine W.any (.move rfl) rfl rfl rfl ?_
  refine W.rdg (Any.rd (.move rfl) _) rfl rfl rfl (rfl) rfl rfl ?_
  have f129 := (f127.le h9_21)
  refine W.efg rfl rfl rfl (rfl) rfl rfl ?_
  refine Ef.call go20 rfl rfl ((by have h := total_led (s := s20) f129; rw [f4] at h; exact h)) ?_
  rintro _ w9_27 ⟨rfl, h9_27⟩
  refine ⟨_, rfl, ?_⟩
  have L130 := L128.trans h9_27
  refine W.rdg (Any.rd (.move rfl) _) rfl rfl rfl (rfl) rfl rfl ?_
  have f131 := (f129.le h9_27)
  refine W.efg rfl rfl rfl (rfl) rfl rfl ?_
  refine Ef.call go17 rfl rfl ((by have h := lost_led (s := s20) f131; rw [f5] at h; exact h)) ?_
  rintro _ w9_29 ⟨rfl, h9_29⟩
  refine ⟨_, rfl, ?_⟩
  have L132 := L130.trans h9_29
  refine W.rdg (Any.rd (.add rfl rfl (by omega)) _) rfl rfl rfl (rfl) rfl rfl ?_
  refine W.rdg (Any.rd (.dec (.eql rfl rfl) (show _ = true from by decide)) _) rfl rfl rfl (rfl) rfl rfl ?_
  refine W.any (.pickT rfl rfl rfl) rfl rfl rfl ?_
  refine W.any (.move rfl) rfl rfl rfl ?_
  refine W.rdg (Any.rd (.move rfl) _) rfl rfl rfl (rfl) rfl rfl ?_
  have f133 := (f131.le h9_29)
  refine W.efg rfl rfl rfl (rfl) rfl rfl ?_
  refine Ef.call go17 rfl rfl ((by have h := lost_led (s := s20) f133; rw [f5] at h; exact h)) ?_
  rintro _ w9_35 ⟨rfl, h9_35⟩
  refine ⟨_, rfl, ?_⟩
  have L134 := L132.trans h9_35
  refine W.rdg (Any.rd (.dec (.eql rfl rfl) (show _ = true from by decide)) _) rfl rfl rfl (rfl) rfl rfl ?_
  refine W.any (.pickT rfl rfl rfl) rfl rfl rfl ?_
  refine W.any (.assign rfl) rfl rfl rfl ?_
  refine W.nil ?_
  refine E.thenN ?_
  refine WC.ret ?_
  refine E.retG1 rfl rfl ?_
  exact ⟨rfl, L134⟩
end Go.Proofs.Ytnmcbdbpafhinaa

namespace Go.Proofs.Ytnmcbdbpafhinaa
open Go Go.Sx Go.Num Go.Gsp Go.Lsp
set_option maxRecDepth 20000
set_option linter.unusedSimpArgs false
set_option linter.unusedVariables false
def lactV (a : LAct) : List Value := [.int .i64 a.do_, .int .i64 a.ch, .int .i64 a.side, .int .i64 a.id, .int .i64 a.am, .int .u64 ((a.pt : Nat) : Int), .int .u64 ((a.sec : Nat) : Int), .int .i64 a.party.a, .int .i64 a.party.b, .int .i64 a.pair.a, .int .i64 a.pair.b, .int .i64 a.fee.a, .int .i64 a.fee.b, .slice a.lA a.lN a.lC, .slice a.oA a.oN a.oC, .slice a.sA a.sN a.sC, .slice a.fA a.fN a.fC]
theorem lactV_row : RowF lactV 17 := ⟨fun _ => rfl, fun x v hv => by simp [lactV] at hv; rcases hv with rfl | rfl | rfl | rfl | rfl | rfl | rfl | rfl | rfl | rfl | rfl | rfl | rfl | rfl | rfl | rfl | rfl <;> rfl, by decide⟩
/-- What is known of an act that came in. -/
structure ActOk (w : World) (a : LAct) : Prop where
  legs : Vec w legV 3 a.lA a.lN a.legs
  old : Vec w iv 1 a.oA a.oN a.old
  seats : Vec w seatV 5 a.sA a.sN a.seats
  fees : Vec w iv 1 a.fA a.fN a.fees
  do_ : -9223372036854775808 ≤ a.do_ ∧ a.do_ ≤ 9223372036854775807
  pt : a.pt < 18446744073709551616
  pair : ∀ k, k < 2 → -9223372036854775808 ≤ a.pair.ix k ∧ a.pair.ix k ≤ 9223372036854775807
def fewA (a : LAct) : Prop := a.lN ≤ 12 ∧ a.oN ≤ 12 ∧ a.sN ≤ 45 ∧ a.fN ≤ 20
theorem few_next {acts : List LAct} {k : Nat} (h : ∀ a ∈ acts.take k, fewA a) (hk : k < acts.length) (hf : fewA (acts.getD k noLAct)) : ∀ a ∈ acts.take (k + 1), fewA a := fun a ha => by
  rw [take_next (z := noLAct) hk] at ha
  rcases List.mem_append.1 ha with ha | ha
  · exact h a ha
  · simp only [List.mem_singleton] at ha; rw [ha]; exact hf
theorem seat46_ok (a : LAct) (w : World) : Calls Try.prog 50 #[.agg (lactV a).toArray] w fun r w' => r = .returned (.agg (seatV (⟨a.ch, a.party.a, a.party.b, a.pair.a, a.pair.b⟩ : Seat)).toArray) ∧ Le w w' := by
  refine enter Try.func50 rfl rfl ?_
  have L0 := Le.refl w
  refine WC.seq ?_
  refine WC.region ?_
  refine W.ef rfl rfl rfl ?_
  refine Ef.boxA rfl ?_
  intro g0_0 w0_0 hg0_0 b0_0 h0_0
  have L1 := L0.trans h0_0
  have b0_0 : Blk w0_0 g0_0 52 (lactV a).toArray := b0_0
  refine W.ef rfl rfl rfl ?_
  refine Ef.allocA z33 ?_
  intro g0_1 w0_1 hg0_1 b0_1 h0_1
  have L2 := L1.trans h0_1
  have b0_1 : Blk w0_1 g0_1 33 (seatV noSeat).toArray := b0_1
  refine W.nil ?_
  refine E.thenN ?_
  refine WC.seq ?_
  refine WC.region ?_
  refine W.any (.field0 fa52_1 rfl) rfl rfl rfl ?_
  have f3 := (b0_0.le h0_1)
  refine W.rd (.loadB (v := .int .i64 (a.ch)) na3 rfl f3 rfl) rfl rfl rfl ?_
  refine W.any (.field0 fa52_7 rfl) rfl rfl rfl ?_
  refine W.rd (.bpart [.int .i64 (a.party.a), .int .i64 (a.party.b)] ag31 rfl (by decide) rfl f3 rfl) rfl rfl rfl ?_
  refine W.any (.field0 fa52_8 rfl) rfl rfl rfl ?_
  refine W.rd (.bpart [.int .i64 (a.pair.a), .int .i64 (a.pair.b)] ag31 rfl (by decide) rfl f3 rfl) rfl rfl rfl ?_
  refine W.any (.buildP (seatV (⟨a.ch, a.party.a, a.party.b, a.pair.a, a.pair.b⟩ : Seat)) pl33 z33 rfl rfl) rfl rfl rfl ?_
  refine W.ef0 rfl rfl ?_
  refine Ef.storeAll sz33 (by rfl) rfl rfl b0_1 (by rfl) (seatV_row.one (⟨a.ch, a.party.a, a.party.b, a.pair.a, a.pair.b⟩ : Seat)) ?_
  intro w1_7 b1_7 h1_7
  have b1_7 : Blk w1_7 g0_1 33 (seatV (⟨a.ch, a.party.a, a.party.b, a.pair.a, a.pair.b⟩ : Seat)).toArray := b1_7
  have L4 : Le w w1_7 := L2.then_ h1_7 (fun q hq => by cases hq; exact Nat.le_trans L1.size hg0_1)
  refine W.nil ?_
  refine E.thenN ?_
  refine WC.ret ?_
  refine E.retG1 rfl (resA rfl b1_7 ag33 (by rfl)) ?_
  exact ⟨rfl, L4⟩

theorem few46_ok {Al : Option Addr} {nl cl : Nat} {acts : List LAct} (w : World) (hl : Vec w lactV 17 Al nl acts) (AO : Option Addr) (nO cO : Nat) (hcap : nl ≤ 9223372036854775807) : Calls Try.prog 19 #[.slice AO nO cO, .slice Al nl cl] w fun r w' => ∃ b : Bool, r = .returned (.bool b) ∧ (b = true → nO ≤ 20 ∧ nl ≤ 30 ∧ ∀ a ∈ acts, fewA a) ∧ Le w w' := by
  have hln := hl.1
  refine enter Try.func19 rfl rfl ?_
  have L0 := Le.refl w
  refine WC.seq ?_
  refine WC.region ?_
  refine W.any (.assign rfl) rfl rfl rfl ?_
  refine W.nil ?_
  refine E.thenN ?_
  refine WC.seq ?_
  refine WC.seq ?_
  refine WC.region ?_
  refine W.any (.assign rfl) rfl rfl rfl ?_
  refine W.nil ?_
  refine E.thenN ?_
  refine WC.block ?_
  refine WC.loop (ι := Nat) (fun k => [(0, .slice AO nO cO), (1, .slice Al nl cl), (5, .int .i64 (((k : Nat) : Int)))]) (fun k wl0 => (k ≤ nl) ∧ (∀ a ∈ acts.take k, fewA a) ∧ Le w wl0 ∧ w.heap.size ≤ wl0.heap.size) (fun k => nl - k) 0 ?_ ?_ ?_
  · exact .cons rfl (.cons rfl (.cons rfl (.nil _)))
  · exact ⟨Nat.zero_le _, fun a ha => by simp at ha, L0, Nat.le_refl _⟩
  · rintro k wl0 ⟨hk, hf, Ll0, zl0⟩
    refine WC.seq ?_
    refine WC.seq ?_
    refine WC.region ?_
    refine W.any (.move rfl) rfl rfl rfl ?_
    refine W.any (.move rfl) rfl rfl rfl ?_
    refine W.rd (.len Try.underlying42 rfl) rfl rfl rfl ?_
    refine W.any (.lss rfl rfl) rfl rfl rfl ?_
    refine W.nil ?_
    refine E.thenN ?_
    by_cases c0 : ((k : Nat) : Int) < ((nl : Nat) : Int)
    · refine WC.condY rfl (decide_eq_true c0) ?_
      refine WC.skip ?_
      refine E.thenN ?_
      refine WC.seq ?_
      refine WC.block ?_
      refine WC.seq ?_
      refine WC.region ?_
      refine W.any (.move rfl) rfl rfl rfl ?_
      refine W.any (.move rfl) rfl rfl rfl ?_
      refine W.any (.idxS (k) Try.underlying42 sz52 rfl rfl (hl.isSome lactV_row (by omega)) (rfl) (by omega)) rfl rfl rfl ?_
      refine W.any (.vfield fa52_10 (hl.isSome lactV_row (by omega)) rfl) rfl rfl rfl ?_
      refine W.rd (.vcell (j := k) (o := 13) (v := .slice ((acts.getD k noLAct).lA) ((acts.getD k noLAct).lN) ((acts.getD k noLAct).lC)) na24 rfl (hl.le Ll0) lactV_row (getS acts noLAct (by first | omega | (simp only [List.length_cons, List.length_nil]; omega))) rfl) rfl rfl rfl ?_
      refine W.rd (.len Try.underlying24 rfl) rfl rfl rfl ?_
      refine W.any (.gtr rfl rfl) rfl rfl rfl ?_
      by_cases q4_7 : 12 < (((acts.getD k noLAct).lN : Nat) : Int)
      · refine W.any (.dec (.move rfl) (decide_eq_true q4_7)) rfl rfl rfl ?_
        refine W.skip rfl rfl rfl (rfl) rfl rfl ?_
        refine W.skip rfl rfl rfl (rfl) rfl rfl ?_
        refine W.skip rfl rfl rfl (rfl) rfl rfl ?_
        refine W.skip rfl rfl rfl (rfl) rfl rfl ?_
        refine W.skip rfl rfl rfl (rfl) rfl rfl ?_
        refine W.skip rfl rfl rfl (rfl) rfl rfl ?_
        refine W.skip rfl rfl rfl (rfl) rfl rfl ?_
        refine W.any (.pickT rfl rfl rfl) rfl rfl rfl ?_
        refine W.any (.move rfl) rfl rfl rfl ?_
        refine W.skip rfl rfl rfl (rfl) rfl rfl ?_
        refine W.skip rfl rfl rfl (rfl) rfl rfl ?_
        refine W.skip rfl rfl rfl (rfl) rfl rfl ?_
        refine W.skip rfl rfl rfl (rfl) rfl rfl ?_
        refine W.skip rfl rfl rfl (rfl) rfl rfl ?_
        refine W.skip rfl rfl rfl (rfl) rfl rfl ?_
        refine W.skip rfl rfl rfl (rfl) rfl rfl ?_
        refine W.any (.pickT rfl rfl rfl) rfl rfl rfl ?_
        refine W.any (.move rfl) rfl rfl rfl ?_
        refine W.skip rfl rfl rfl (rfl) rfl rfl ?_
        refine W.skip rfl rfl rfl (rfl) rfl rfl ?_
        refine W.skip rfl rfl rfl (rfl) rfl rfl ?_
        refine W.skip rfl rfl rfl (rfl) rfl rfl ?_
        refine W.skip rfl rfl rfl (rfl) rfl rfl ?_
        refine W.skip rfl rfl rfl (rfl) rfl rfl ?_
        refine W.skip rfl rfl rfl (rfl) rfl rfl ?_
        refine W.any (.pickT rfl rfl rfl) rfl rfl rfl ?_
        refine W.nil ?_
        refine E.thenN ?_
        refine WC.condT rfl ?_
        refine WC.seq ?_
        refine WC.region ?_
        refine W.any (.assign rfl) rfl rfl rfl ?_
        refine W.nil ?_
        refine E.thenN ?_
        refine WC.ret ?_
        refine E.blkR ?_
        refine E.thenR ?_
        refine E.thenR ?_
        refine E.blkR ?_
        refine E.thenR ?_
        refine E.retG1 rfl rfl ?_
        exact ⟨_, rfl, (fun hh => (by cases hh)), Ll0⟩
      · refine W.any (.dec (.move rfl) (decide_eq_false q4_7)) rfl rfl rfl ?_
        refine W.rdg (Any.rd (.move rfl) _) rfl rfl rfl (rfl) rfl rfl ?_
        refine W.rdg (Any.rd (.move rfl) _) rfl rfl rfl (rfl) rfl rfl ?_
        refine W.rdg (Any.rd (.idxS (k) Try.underlying42 sz52 rfl rfl (hl.isSome lactV_row (by omega)) (rfl) (by omega)) _) rfl rfl rfl (rfl) rfl rfl ?_
        refine W.rdg (Any.rd (.vfield fa52_11 (hl.isSome lactV_row (by omega)) rfl) _) rfl rfl rfl (rfl) rfl rfl ?_
        refine W.rdg (.vcell (j := k) (o := 14) (v := .slice ((acts.getD k noLAct).oA) ((acts.getD k noLAct).oN) ((acts.getD k noLAct).oC)) na41 rfl (hl.le Ll0) lactV_row (getS acts noLAct (by first | omega | (simp only [List.length_cons, List.length_nil]; omega))) rfl) rfl rfl rfl (rfl) rfl rfl ?_
        refine W.rdg (.len Try.underlying41 rfl) rfl rfl rfl (rfl) rfl rfl ?_
        refine W.rdg (Any.rd (.gtr rfl rfl) _) rfl rfl rfl (rfl) rfl rfl ?_
        refine W.any (.pickF rfl rfl rfl) rfl rfl rfl ?_
        by_cases q4_16 : 12 < (((acts.getD k noLAct).oN : Nat) : Int)
        · refine W.any (.dec (.move rfl) (decide_eq_true q4_16)) rfl rfl rfl ?_
          refine W.skip rfl rfl rfl (rfl) rfl rfl ?_
          refine W.skip rfl rfl rfl (rfl) rfl rfl ?_
          refine W.skip rfl rfl rfl (rfl) rfl rfl ?_
          refine W.skip rfl rfl rfl (rfl) rfl rfl ?_
          refine W.skip rfl rfl rfl (rfl) rfl rfl ?_
          refine W.skip rfl rfl rfl (rfl) rfl rfl ?_
          refine W.skip rfl rfl rfl (rfl) rfl rfl ?_
          refine W.any (.pickT rfl rfl rfl) rfl rfl rfl ?_
          refine W.any (.move rfl) rfl rfl rfl ?_
          refine W.skip rfl rfl rfl (rfl) rfl rfl ?_
          refine W.skip rfl rfl rfl (rfl) rfl rfl ?_
          refine W.skip rfl rfl rfl (rfl) rfl rfl ?_
          refine W.skip rfl rfl rfl (rfl) rfl rfl ?_
          refine W.skip rfl rfl rfl (rfl) rfl rfl ?_
          refine W.skip rfl rfl rfl (rfl) rfl rfl ?_
          refine W.skip rfl rfl rfl (rfl) rfl rfl ?_
          refine W.any (.pickT rfl rfl rfl) rfl rfl rfl ?_
          refine W.nil ?_
          refine E.thenN ?_
          refine WC.condT rfl ?_
          refine WC.seq ?_
          refine WC.region ?_
          refine W.any (.assign rfl) rfl rfl rfl ?_
          refine W.nil ?_
          refine E.thenN ?_
          refine WC.ret ?_
          refine E.blkR ?_
          refine E.thenR ?_
          refine E.thenR ?_
          refine E.blkR ?_
          refine E.thenR ?_
          refine E.retG1 rfl rfl ?_
          exact ⟨_, rfl, (fun hh => (by cases hh)), Ll0⟩
        · refine W.any (.dec (.move rfl) (decide_eq_false q4_16)) rfl rfl rfl ?_
          refine W.rdg (Any.rd (.move rfl) _) rfl rfl rfl (rfl) rfl rfl ?_
          refine W.rdg (Any.rd (.move rfl) _) rfl rfl rfl (rfl) rfl rfl ?_
          refine W.rdg (Any.rd (.idxS (k) Try.underlying42 sz52 rfl rfl (hl.isSome lactV_row (by omega)) (rfl) (by omega)) _) rfl rfl rfl (rfl) rfl rfl ?_
          refine W.rdg (Any.rd (.vfield fa52_12 (hl.isSome lactV_row (by omega)) rfl) _) rfl rfl rfl (rfl) rfl rfl ?_
          refine W.rdg (.vcell (j := k) (o := 15) (v := .slice ((acts.getD k noLAct).sA) ((acts.getD k noLAct).sN) ((acts.getD k noLAct).sC)) na50 rfl (hl.le Ll0) lactV_row (getS acts noLAct (by first | omega | (simp only [List.length_cons, List.length_nil]; omega))) rfl) rfl rfl rfl (rfl) rfl rfl ?_
          refine W.rdg (.len Try.underlying50 rfl) rfl rfl rfl (rfl) rfl rfl ?_
          refine W.rdg (Any.rd (.gtr rfl rfl) _) rfl rfl rfl (rfl) rfl rfl ?_
          refine W.any (.pickF rfl rfl rfl) rfl rfl rfl ?_
          by_cases q4_25 : 45 < (((acts.getD k noLAct).sN : Nat) : Int)
          · refine W.any (.dec (.move rfl) (decide_eq_true q4_25)) rfl rfl rfl ?_
            refine W.skip rfl rfl rfl (rfl) rfl rfl ?_
            refine W.skip rfl rfl rfl (rfl) rfl rfl ?_
            refine W.skip rfl rfl rfl (rfl) rfl rfl ?_
            refine W.skip rfl rfl rfl (rfl) rfl rfl ?_
            refine W.skip rfl rfl rfl (rfl) rfl rfl ?_
            refine W.skip rfl rfl rfl (rfl) rfl rfl ?_
            refine W.skip rfl rfl rfl (rfl) rfl rfl ?_
            refine W.any (.pickT rfl rfl rfl) rfl rfl rfl ?_
            refine W.nil ?_
            refine E.thenN ?_
            refine WC.condT rfl ?_
            refine WC.seq ?_
            refine WC.region ?_
            refine W.any (.assign rfl) rfl rfl rfl ?_
            refine W.nil ?_
            refine E.thenN ?_
            refine WC.ret ?_
            refine E.blkR ?_
            refine E.thenR ?_
            refine E.thenR ?_
            refine E.blkR ?_
            refine E.thenR ?_
            refine E.retG1 rfl rfl ?_
            exact ⟨_, rfl, (fun hh => (by cases hh)), Ll0⟩
          · refine W.any (.dec (.move rfl) (decide_eq_false q4_25)) rfl rfl rfl ?_
            refine W.rdg (Any.rd (.move rfl) _) rfl rfl rfl (rfl) rfl rfl ?_
            refine W.rdg (Any.rd (.move rfl) _) rfl rfl rfl (rfl) rfl rfl ?_
            refine W.rdg (Any.rd (.idxS (k) Try.underlying42 sz52 rfl rfl (hl.isSome lactV_row (by omega)) (rfl) (by omega)) _) rfl rfl rfl (rfl) rfl rfl ?_
            refine W.rdg (Any.rd (.vfield fa52_13 (hl.isSome lactV_row (by omega)) rfl) _) rfl rfl rfl (rfl) rfl rfl ?_
            refine W.rdg (.vcell (j := k) (o := 16) (v := .slice ((acts.getD k noLAct).fA) ((acts.getD k noLAct).fN) ((acts.getD k noLAct).fC)) na41 rfl (hl.le Ll0) lactV_row (getS acts noLAct (by first | omega | (simp only [List.length_cons, List.length_nil]; omega))) rfl) rfl rfl rfl (rfl) rfl rfl ?_
            refine W.rdg (.len Try.underlying41 rfl) rfl rfl rfl (rfl) rfl rfl ?_
            refine W.rdg (Any.rd (.gtr rfl rfl) _) rfl rfl rfl (rfl) rfl rfl ?_
            refine W.any (.pickF rfl rfl rfl) rfl rfl rfl ?_
            refine W.nil ?_
            refine E.thenN ?_
            by_cases c1 : 20 < (((acts.getD k noLAct).fN : Nat) : Int)
            · refine WC.condY rfl (decide_eq_true c1) ?_
              refine WC.seq ?_
              refine WC.region ?_
              refine W.any (.assign rfl) rfl rfl rfl ?_
              refine W.nil ?_
              refine E.thenN ?_
              refine WC.ret ?_
              refine E.blkR ?_
              refine E.thenR ?_
              refine E.thenR ?_
              refine E.blkR ?_
              refine E.thenR ?_
              refine E.retG1 rfl rfl ?_
              exact ⟨_, rfl, (fun hh => (by cases hh)), Ll0⟩
            · refine WC.condN rfl (decide_eq_false c1) ?_
              refine WC.skip ?_
              refine E.blkN ?_
              refine E.thenN ?_
              refine WC.region ?_
              refine W.any (.move rfl) rfl rfl rfl ?_
              refine W.any (.add rfl rfl (by omega)) rfl rfl rfl ?_
              refine W.any (.assign rfl) rfl rfl rfl ?_
              refine W.nil ?_
              refine E.again (k + 1) (.cons rfl (.cons rfl (.cons rfl (.nil _)))) ?_ ?_
              · exact ⟨by omega, few_next hf (by omega) ⟨by omega, by omega, by omega, by omega⟩, Ll0, by have := zl0; omega⟩
              · first | omega | (simp only []; omega)
    · refine WC.condN rfl (decide_eq_false c0) ?_
      have hf2 : ∀ a ∈ acts, fewA a := (by rw [List.take_of_length_le (by omega)] at hf; exact hf)
      refine WC.exit ?_
      refine E.thenX ?_
      refine E.thenX ?_
      refine E.blkH ?_
      refine E.thenN ?_
      refine WC.seq ?_
      refine WC.region ?_
      refine W.any (.move rfl) rfl rfl rfl ?_
      refine W.rd (.len Try.underlying41 rfl) rfl rfl rfl ?_
      refine W.any (.leq rfl rfl) rfl rfl rfl ?_
      by_cases q6_3 : ((nO : Nat) : Int) ≤ 20
      · refine W.any (.dec (.move rfl) (decide_eq_true q6_3)) rfl rfl rfl ?_
        refine W.rdg (Any.rd (.move rfl) _) rfl rfl rfl (rfl) rfl rfl ?_
        refine W.rdg (.len Try.underlying42 rfl) rfl rfl rfl (rfl) rfl rfl ?_
        refine W.rdg (Any.rd (.leq rfl rfl) _) rfl rfl rfl (rfl) rfl rfl ?_
        refine W.any (.pickT rfl rfl rfl) rfl rfl rfl ?_
        refine W.any (.assign rfl) rfl rfl rfl ?_
        refine W.nil ?_
        refine E.thenN ?_
        refine WC.ret ?_
        refine E.retG1 rfl rfl ?_
        exact ⟨_, rfl, (fun hh => ⟨by omega, (by have := of_decide_eq_true hh; omega), hf2⟩), Ll0⟩
      · refine W.any (.dec (.move rfl) (decide_eq_false q6_3)) rfl rfl rfl ?_
        refine W.skip rfl rfl rfl (rfl) rfl rfl ?_
        refine W.skip rfl rfl rfl (rfl) rfl rfl ?_
        refine W.skip rfl rfl rfl (rfl) rfl rfl ?_
        refine W.any (.pickF rfl rfl rfl) rfl rfl rfl ?_
        refine W.any (.assign rfl) rfl rfl rfl ?_
        refine W.nil ?_
        refine E.thenN ?_
        refine WC.ret ?_
        refine E.retG1 rfl rfl ?_
        exact ⟨_, rfl, (fun hh => (by cases hh)), Ll0⟩

theorem done46_ok {w0 : World} {base gp : Nat} {F : Nat → Prop} {s : Led} {a : LAct} {w : World} (hP : LPool w base gp F s) (hx : ActOk w0 a ∧ Le w0 w ∧ w0.heap.size ≤ base) (hf : fewA a) : Calls Try.prog 22 #[.pointer (some ⟨gp, 0, none⟩), .agg (lactV a).toArray] w (Acted w base gp F (actL s a)) := by
  obtain ⟨ha, hl0, hb0⟩ := hx
  have v1 := (ha.legs).le hl0
  have v2 := (ha.old).le hl0
  have v3 := (ha.seats).le hl0
  have v4 := (ha.fees).le hl0
  have nv1 : ∀ q, blkOf a.lA = some q → 0 < a.lN → q < w.heap.size → ¬ F q := fun q h1 h2 _ hF => by have := ha.legs.blk_lt legV_row h2 h1; have := hP.old hF; omega
  have nv2 : ∀ q, blkOf a.oA = some q → 0 < a.oN → q < w.heap.size → ¬ F q := fun q h1 h2 _ hF => by have := ha.old.blk_lt iv_row h2 h1; have := hP.old hF; omega
  have nv3 : ∀ q, blkOf a.sA = some q → 0 < a.sN → q < w.heap.size → ¬ F q := fun q h1 h2 _ hF => by have := ha.seats.blk_lt seatV_row h2 h1; have := hP.old hF; omega
  have nv4 : ∀ q, blkOf a.fA = some q → 0 < a.fN → q < w.heap.size → ¬ F q := fun q h1 h2 _ hF => by have := ha.fees.blk_lt iv_row h2 h1; have := hP.old hF; omega
  have hdo := ha.do_
  have hpt := ha.pt
  obtain ⟨f1, f2, f3, f4⟩ := hf
  refine enter Try.func22 rfl rfl ?_
  have L0 := ChP.refl w (F)
  refine WC.seq ?_
  refine WC.region ?_
  refine W.ef rfl rfl rfl ?_
  refine Ef.boxA rfl ?_
  intro g0_0 w0_0 hg0_0 b0_0 h0_0
  have L1 := L0.le h0_0
  have b0_0 : Blk w0_0 g0_0 52 (lactV a).toArray := b0_0
  refine W.any (.assign rfl) rfl rfl rfl ?_
  refine W.nil ?_
  refine E.thenN ?_
  refine WC.seq ?_
  refine WC.seq ?_
  refine WC.region ?_
  refine W.any (.field0 fa52_0 rfl) rfl rfl rfl ?_
  refine W.rd (.loadB (v := .int .i64 (a.do_)) na3 rfl b0_0 rfl) rfl rfl rfl ?_
  refine W.any (.and7 rfl rfl (by omega)) rfl rfl rfl ?_
  refine W.nil ?_
  refine E.thenN ?_
  refine WC.block ?_
  refine WC.seq ?_
  refine WC.region ?_
  refine W.any (.eql rfl rfl) rfl rfl rfl ?_
  refine W.any (.assign rfl) rfl rfl rfl ?_
  refine W.nil ?_
  refine E.thenN ?_
  by_cases c0 : (a.do_ % 8) = 0
  · refine WC.condY rfl (decide_eq_true c0) ?_
    refine WC.seq ?_
    refine WC.draw [0, 1, 3, 4, 5, 2, 6, 7] mixed (by kernel_rfl) ?_
    intro w3 d3
    have L2 := L1.le d3
    refine G.any rfl rfl (.move rfl) rfl rfl rfl ?_
    have f3 := (b0_0.le d3)
    refine G.rd rfl rfl (.loadAll ag52 (by rfl) rfl f3) rfl rfl rfl ?_
    refine G.any rfl rfl (.field0 fa52_9 rfl) rfl rfl rfl ?_
    refine G.any rfl rfl (.idxAo (0) Try.underlying31 sz3 rfl rfl (rfl) (by omega)) rfl rfl rfl ?_
    refine G.rd rfl rfl (.loadB (v := .int .i64 (a.fee.a)) na3 rfl f3 rfl) rfl rfl rfl ?_
    refine G.ef rfl rfl rfl rfl rfl ?_
    refine Ef.call go50 rfl rfl (seat46_ok a w3) ?_
    rintro _ w3_2 ⟨rfl, h3_2⟩
    refine ⟨_, rfl, ?_⟩
    refine ⟨fun _ => h3_2, ?_⟩
    have L4 := L2.le h3_2
    have f5 := (hP.le (h0_0.trans (d3.trans h3_2)))
    refine G.ef rfl rfl rfl rfl rfl ?_
    refine Ef.call go40 rfl rfl (open_led (s := s) (⟨a.ch, a.party.a, a.party.b, a.pair.a, a.pair.b⟩ : Seat) a.fee.a f5) ?_
    rintro _ w3_6 ⟨F3_6, rfl, p3_6, g3_6, h3_6⟩
    refine ⟨_, rfl, ?_⟩
    refine ⟨fun h => absurd h (ne_true_of_eq_false (by kernel_rfl)), ?_⟩
    have L6 := L4.sub h3_6 (fun i hi hlt => hi)
    have f7 := (f3.le h3_2)
    have zq8n := (show ¬ F g0_0 from (fun hF => by have := hP.lt hF;  have := hg0_0; omega))
    have zq8 := f7.chP h3_6 zq8n
    have zq8g : ¬ F3_6 g0_0 := fun hF => (g3_6 _ hF).elim zq8n (fun hz => by have := f7.lt; omega)
    refine G.any rfl rfl (.assign rfl) rfl rfl rfl ?_
    refine G.nil ?_
    refine E.thenN ?_
    refine WC.ret ?_
    refine E.blkR ?_
    refine E.thenR ?_
    refine E.retG1 rfl rfl ?_
    have ea : actL s a = (openL s (⟨a.ch, a.party.a, a.party.b, a.pair.a, a.pair.b⟩ : Seat) a.fee.a) := (by unfold actL LAct.seat; rw [if_pos c0])
    rw [ea]
    exact ⟨_, rfl, p3_6, fun k hk => (g3_6 k hk).imp_right (fun h => Nat.le_trans (L4).size h), L6⟩
  · refine WC.condN rfl (decide_eq_false c0) ?_
    refine WC.seq ?_
    refine WC.region ?_
    refine W.any (.eql rfl rfl) rfl rfl rfl ?_
    refine W.any (.assign rfl) rfl rfl rfl ?_
    refine W.nil ?_
    refine E.thenN ?_
    by_cases c1 : (a.do_ % 8) = 1
    · refine WC.condY rfl (decide_eq_true c1) ?_
      refine WC.seq ?_
      refine WC.region ?_
      refine W.any (.move rfl) rfl rfl rfl ?_
      refine W.any (.field0 fa52_1 rfl) rfl rfl rfl ?_
      refine W.rd (.loadB (v := .int .i64 (a.ch)) na3 rfl b0_0 rfl) rfl rfl rfl ?_
      refine W.any (.field0 fa52_9 rfl) rfl rfl rfl ?_
      refine W.rd (.bpart [.int .i64 (a.fee.a), .int .i64 (a.fee.b)] ag31 rfl (by decide) rfl b0_0 rfl) rfl rfl rfl ?_
      have f9 := (hP.le h0_0)
      refine W.ef rfl rfl rfl ?_
      refine Ef.call go42 rfl rfl (close_led (s := s) a.ch (⟨a.fee.a, a.fee.b⟩ : Pair) f9) ?_
      rintro _ w5_5 ⟨F5_5, rfl, p5_5, g5_5, h5_5⟩
      refine ⟨_, rfl, ?_⟩
      have L10 := L1.sub h5_5 (fun i hi hlt => hi)
      have zq11n := (show ¬ F g0_0 from (fun hF => by have := hP.lt hF;  have := hg0_0; omega))
      have zq11 := b0_0.chP h5_5 zq11n
      have zq11g : ¬ F5_5 g0_0 := fun hF => (g5_5 _ hF).elim zq11n (fun hz => by have := b0_0.lt; omega)
      refine W.any (.assign rfl) rfl rfl rfl ?_
      refine W.nil ?_
      refine E.thenN ?_
      refine WC.ret ?_
      refine E.blkR ?_
      refine E.thenR ?_
      refine E.retG1 rfl rfl ?_
      have ea : actL s a = (closeL s a.ch (⟨a.fee.a, a.fee.b⟩ : Pair)) := (by unfold actL LAct.seat; rw [if_neg c0, if_pos c1])
      rw [ea]
      exact ⟨_, rfl, p5_5, fun k hk => (g5_5 k hk).imp_right (fun h => Nat.le_trans (L1).size h), L10⟩
    · refine WC.condN rfl (decide_eq_false c1) ?_
      refine WC.seq ?_
      refine WC.region ?_
      refine W.any (.eql rfl rfl) rfl rfl rfl ?_
      refine W.any (.assign rfl) rfl rfl rfl ?_
      refine W.nil ?_
      refine E.thenN ?_
      by_cases c2 : (a.do_ % 8) = 2
      · refine WC.condY rfl (decide_eq_true c2) ?_
        refine WC.seq ?_
        refine WC.region ?_
        refine W.any (.move rfl) rfl rfl rfl ?_
        refine W.any (.field0 fa52_1 rfl) rfl rfl rfl ?_
        refine W.rd (.loadB (v := .int .i64 (a.ch)) na3 rfl b0_0 rfl) rfl rfl rfl ?_
        refine W.any (.field0 fa52_2 rfl) rfl rfl rfl ?_
        refine W.rd (.loadB (v := .int .i64 (a.side)) na3 rfl b0_0 rfl) rfl rfl rfl ?_
        refine W.any (.field0 fa52_3 rfl) rfl rfl rfl ?_
        refine W.rd (.loadB (v := .int .i64 (a.id)) na3 rfl b0_0 rfl) rfl rfl rfl ?_
        refine W.any (.field0 fa52_4 rfl) rfl rfl rfl ?_
        refine W.rd (.loadB (v := .int .i64 (a.am)) na3 rfl b0_0 rfl) rfl rfl rfl ?_
        refine W.any (.field0 fa52_5 rfl) rfl rfl rfl ?_
        refine W.rd (.loadB (v := .int .u64 (((a.pt : Nat) : Int))) na48 rfl b0_0 rfl) rfl rfl rfl ?_
        have f12 := (hP.le h0_0)
        refine W.ef rfl rfl rfl ?_
        refine Ef.call go24 rfl rfl (offer_led (s := s) a.ch a.side a.id a.am a.pt (hpt) f12) ?_
        rintro _ w7_11 ⟨F7_11, rfl, p7_11, g7_11, h7_11⟩
        refine ⟨_, rfl, ?_⟩
        have L13 := L1.sub h7_11 (fun i hi hlt => hi)
        have zq14n := (show ¬ F g0_0 from (fun hF => by have := hP.lt hF;  have := hg0_0; omega))
        have zq14 := b0_0.chP h7_11 zq14n
        have zq14g : ¬ F7_11 g0_0 := fun hF => (g7_11 _ hF).elim zq14n (fun hz => by have := b0_0.lt; omega)
        refine W.any (.assign rfl) rfl rfl rfl ?_
        refine W.nil ?_
        refine E.thenN ?_
        refine WC.ret ?_
        refine E.blkR ?_
        refine E.thenR ?_
        refine E.retG1 rfl rfl ?_
        have ea : actL s a = (offerL s a.ch a.side a.id a.am a.pt) := (by unfold actL LAct.seat; rw [if_neg c0, if_neg c1, if_pos c2])
        rw [ea]
        exact ⟨_, rfl, p7_11, fun k hk => (g7_11 k hk).imp_right (fun h => Nat.le_trans (L1).size h), L13⟩
      · refine WC.condN rfl (decide_eq_false c2) ?_
        refine WC.seq ?_
        refine WC.region ?_
        refine W.any (.eql rfl rfl) rfl rfl rfl ?_
        refine W.any (.assign rfl) rfl rfl rfl ?_
        refine W.nil ?_
        refine E.thenN ?_
        by_cases c3 : (a.do_ % 8) = 3
        · refine WC.condY rfl (decide_eq_true c3) ?_
          refine WC.seq ?_
          refine WC.region ?_
          refine W.any (.move rfl) rfl rfl rfl ?_
          refine W.any (.field0 fa52_1 rfl) rfl rfl rfl ?_
          refine W.rd (.loadB (v := .int .i64 (a.ch)) na3 rfl b0_0 rfl) rfl rfl rfl ?_
          refine W.any (.field0 fa52_2 rfl) rfl rfl rfl ?_
          refine W.rd (.loadB (v := .int .i64 (a.side)) na3 rfl b0_0 rfl) rfl rfl rfl ?_
          refine W.any (.field0 fa52_3 rfl) rfl rfl rfl ?_
          refine W.rd (.loadB (v := .int .i64 (a.id)) na3 rfl b0_0 rfl) rfl rfl rfl ?_
          refine W.any (.field0 fa52_6 rfl) rfl rfl rfl ?_
          refine W.rd (.loadB (v := .int .u64 (((a.sec : Nat) : Int))) na49 rfl b0_0 rfl) rfl rfl rfl ?_
          have f15 := (hP.le h0_0)
          refine W.ef rfl rfl rfl ?_
          refine Ef.call go27 rfl rfl (settle_led (s := s) a.ch a.side a.id a.sec f15) ?_
          rintro _ w9_9 ⟨F9_9, rfl, p9_9, g9_9, h9_9⟩
          refine ⟨_, rfl, ?_⟩
          have L16 := L1.sub h9_9 (fun i hi hlt => hi)
          have zq17n := (show ¬ F g0_0 from (fun hF => by have := hP.lt hF;  have := hg0_0; omega))
          have zq17 := b0_0.chP h9_9 zq17n
          have zq17g : ¬ F9_9 g0_0 := fun hF => (g9_9 _ hF).elim zq17n (fun hz => by have := b0_0.lt; omega)
          refine W.any (.assign rfl) rfl rfl rfl ?_
          refine W.nil ?_
          refine E.thenN ?_
          refine WC.ret ?_
          refine E.blkR ?_
          refine E.thenR ?_
          refine E.retG1 rfl rfl ?_
          have ea : actL s a = (settleL s a.ch a.side a.id a.sec) := (by unfold actL LAct.seat; rw [if_neg c0, if_neg c1, if_neg c2, if_pos c3])
          rw [ea]
          exact ⟨_, rfl, p9_9, fun k hk => (g9_9 k hk).imp_right (fun h => Nat.le_trans (L1).size h), L16⟩
        · refine WC.condN rfl (decide_eq_false c3) ?_
          refine WC.seq ?_
          refine WC.region ?_
          refine W.any (.eql rfl rfl) rfl rfl rfl ?_
          refine W.any (.assign rfl) rfl rfl rfl ?_
          refine W.nil ?_
          refine E.thenN ?_
          by_cases c4 : (a.do_ % 8) = 4
          · refine WC.condY rfl (decide_eq_true c4) ?_
            refine WC.seq ?_
            refine WC.region ?_
            refine W.any (.move rfl) rfl rfl rfl ?_
            refine W.any (.field0 fa52_1 rfl) rfl rfl rfl ?_
            refine W.rd (.loadB (v := .int .i64 (a.ch)) na3 rfl b0_0 rfl) rfl rfl rfl ?_
            refine W.any (.field0 fa52_2 rfl) rfl rfl rfl ?_
            refine W.rd (.loadB (v := .int .i64 (a.side)) na3 rfl b0_0 rfl) rfl rfl rfl ?_
            refine W.any (.field0 fa52_3 rfl) rfl rfl rfl ?_
            refine W.rd (.loadB (v := .int .i64 (a.id)) na3 rfl b0_0 rfl) rfl rfl rfl ?_
            have f18 := (hP.le h0_0)
            refine W.ef rfl rfl rfl ?_
            refine Ef.call go28 rfl rfl (fail_led (s := s) a.ch a.side a.id f18) ?_
            rintro _ w11_7 ⟨F11_7, rfl, p11_7, g11_7, h11_7⟩
            refine ⟨_, rfl, ?_⟩
            have L19 := L1.sub h11_7 (fun i hi hlt => hi)
            have zq20n := (show ¬ F g0_0 from (fun hF => by have := hP.lt hF;  have := hg0_0; omega))
            have zq20 := b0_0.chP h11_7 zq20n
            have zq20g : ¬ F11_7 g0_0 := fun hF => (g11_7 _ hF).elim zq20n (fun hz => by have := b0_0.lt; omega)
            refine W.any (.assign rfl) rfl rfl rfl ?_
            refine W.nil ?_
            refine E.thenN ?_
            refine WC.ret ?_
            refine E.blkR ?_
            refine E.thenR ?_
            refine E.retG1 rfl rfl ?_
            have ea : actL s a = (failL s a.ch a.side a.id) := (by unfold actL LAct.seat; rw [if_neg c0, if_neg c1, if_neg c2, if_neg c3, if_pos c4])
            rw [ea]
            exact ⟨_, rfl, p11_7, fun k hk => (g11_7 k hk).imp_right (fun h => Nat.le_trans (L1).size h), L19⟩
          · refine WC.condN rfl (decide_eq_false c4) ?_
            refine WC.seq ?_
            refine WC.region ?_
            refine W.any (.eql rfl rfl) rfl rfl rfl ?_
            refine W.any (.assign rfl) rfl rfl rfl ?_
            refine W.nil ?_
            refine E.thenN ?_
            by_cases c5 : (a.do_ % 8) = 5
            · refine WC.condY rfl (decide_eq_true c5) ?_
              refine WC.seq ?_
              refine WC.region ?_
              refine W.any (.move rfl) rfl rfl rfl ?_
              refine W.any (.field0 fa52_10 rfl) rfl rfl rfl ?_
              refine W.rd (.loadB (v := .slice a.lA a.lN a.lC) na24 rfl b0_0 rfl) rfl rfl rfl ?_
              have f21 := (hP.le h0_0)
              refine W.ef rfl rfl rfl ?_
              refine Ef.call go13 rfl rfl (pay_led (s := s) (cg := a.lC) f21 (v1.chP L1 nv1) (by omega) (fun q h0 h1 h2 => nv1 q h0 h1 (v1.blk_lt legV_row h1 h0))) ?_
              rintro _ w13_3 ⟨F13_3, rfl, p13_3, g13_3, h13_3⟩
              refine ⟨_, rfl, ?_⟩
              have L22 := L1.sub h13_3 (fun i hi hlt => hi)
              have zq23n := (show ¬ F g0_0 from (fun hF => by have := hP.lt hF;  have := hg0_0; omega))
              have zq23 := b0_0.chP h13_3 zq23n
              have zq23g : ¬ F13_3 g0_0 := fun hF => (g13_3 _ hF).elim zq23n (fun hz => by have := b0_0.lt; omega)
              refine W.any (.assign rfl) rfl rfl rfl ?_
              refine W.nil ?_
              refine E.thenN ?_
              refine WC.ret ?_
              refine E.blkR ?_
              refine E.thenR ?_
              refine E.retG1 rfl rfl ?_
              have ea : actL s a = (payL s a.legs) := (by unfold actL LAct.seat; rw [if_neg c0, if_neg c1, if_neg c2, if_neg c3, if_neg c4, if_pos c5])
              rw [ea]
              exact ⟨_, rfl, p13_3, fun k hk => (g13_3 k hk).imp_right (fun h => Nat.le_trans (L1).size h), L22⟩
            · refine WC.condN rfl (decide_eq_false c5) ?_
              refine WC.seq ?_
              refine WC.region ?_
              refine W.any (.eql rfl rfl) rfl rfl rfl ?_
              refine W.any (.assign rfl) rfl rfl rfl ?_
              refine W.nil ?_
              refine E.thenN ?_
              by_cases c6 : (a.do_ % 8) = 6
              · refine WC.condY rfl (decide_eq_true c6) ?_
                refine WC.seq ?_
                refine WC.region ?_
                refine W.any (.move rfl) rfl rfl rfl ?_
                refine W.any (.field0 fa52_1 rfl) rfl rfl rfl ?_
                refine W.rd (.loadB (v := .int .i64 (a.ch)) na3 rfl b0_0 rfl) rfl rfl rfl ?_
                refine W.any (.field0 fa52_8 rfl) rfl rfl rfl ?_
                refine W.rd (.bpart [.int .i64 (a.pair.a), .int .i64 (a.pair.b)] ag31 rfl (by decide) rfl b0_0 rfl) rfl rfl rfl ?_
                refine W.any (.field0 fa52_9 rfl) rfl rfl rfl ?_
                refine W.rd (.bpart [.int .i64 (a.fee.a), .int .i64 (a.fee.b)] ag31 rfl (by decide) rfl b0_0 rfl) rfl rfl rfl ?_
                have f24 := (hP.le h0_0)
                refine W.ef rfl rfl rfl ?_
                refine Ef.call go44 rfl rfl (splice_led (s := s) a.ch (⟨a.pair.a, a.pair.b⟩ : Pair) (⟨a.fee.a, a.fee.b⟩ : Pair) (ha.pair) f24) ?_
                rintro _ w15_7 ⟨F15_7, rfl, p15_7, g15_7, h15_7⟩
                refine ⟨_, rfl, ?_⟩
                have L25 := L1.sub h15_7 (fun i hi hlt => hi)
                have zq26n := (show ¬ F g0_0 from (fun hF => by have := hP.lt hF;  have := hg0_0; omega))
                have zq26 := b0_0.chP h15_7 zq26n
                have zq26g : ¬ F15_7 g0_0 := fun hF => (g15_7 _ hF).elim zq26n (fun hz => by have := b0_0.lt; omega)
                refine W.any (.assign rfl) rfl rfl rfl ?_
                refine W.nil ?_
                refine E.thenN ?_
                refine WC.ret ?_
                refine E.blkR ?_
                refine E.thenR ?_
                refine E.retG1 rfl rfl ?_
                have ea : actL s a = (spliceL s a.ch (⟨a.pair.a, a.pair.b⟩ : Pair) (⟨a.fee.a, a.fee.b⟩ : Pair)) := (by unfold actL LAct.seat; rw [if_neg c0, if_neg c1, if_neg c2, if_neg c3, if_neg c4, if_neg c5, if_pos c6])
                rw [ea]
                exact ⟨_, rfl, p15_7, fun k hk => (g15_7 k hk).imp_right (fun h => Nat.le_trans (L1).size h), L25⟩
              · refine WC.condN rfl (decide_eq_false c6) ?_
                refine WC.skip ?_
                refine E.blkN ?_
                refine E.thenN ?_
                refine WC.seq ?_
                refine WC.region ?_
                refine W.any (.move rfl) rfl rfl rfl ?_
                refine W.any (.field0 fa52_11 rfl) rfl rfl rfl ?_
                refine W.rd (.loadB (v := .slice a.oA a.oN a.oC) na41 rfl b0_0 rfl) rfl rfl rfl ?_
                refine W.any (.field0 fa52_12 rfl) rfl rfl rfl ?_
                refine W.rd (.loadB (v := .slice a.sA a.sN a.sC) na50 rfl b0_0 rfl) rfl rfl rfl ?_
                refine W.any (.field0 fa52_13 rfl) rfl rfl rfl ?_
                refine W.rd (.loadB (v := .slice a.fA a.fN a.fC) na41 rfl b0_0 rfl) rfl rfl rfl ?_
                have f27 := (hP.le h0_0)
                refine W.ef rfl rfl rfl ?_
                refine Ef.call go43 rfl rfl (cut_led (s := s) (co := a.oC) (cS := a.sC) (cf := a.fC) f27 (v2.chP L1 nv2) (v3.chP L1 nv3) (v4.chP L1 nv4) (by omega) (by omega) (by omega) (fun q h0 h1 h2 => nv2 q h0 h1 (v2.blk_lt iv_row h1 h0)) (fun q h0 h1 h2 => nv3 q h0 h1 (v3.blk_lt seatV_row h1 h0)) (fun q h0 h1 h2 => nv4 q h0 h1 (v4.blk_lt iv_row h1 h0))) ?_
                rintro _ w16_7 ⟨F16_7, rfl, p16_7, g16_7, h16_7⟩
                refine ⟨_, rfl, ?_⟩
                have L28 := L1.sub h16_7 (fun i hi hlt => hi)
                have zq29n := (show ¬ F g0_0 from (fun hF => by have := hP.lt hF;  have := hg0_0; omega))
                have zq29 := b0_0.chP h16_7 zq29n
                have zq29g : ¬ F16_7 g0_0 := fun hF => (g16_7 _ hF).elim zq29n (fun hz => by have := b0_0.lt; omega)
                refine W.any (.assign rfl) rfl rfl rfl ?_
                refine W.nil ?_
                refine E.thenN ?_
                refine WC.ret ?_
                refine E.retG1 rfl rfl ?_
                have ea : actL s a = (cutL s a.old a.seats a.fees) := (by unfold actL LAct.seat; rw [if_neg c0, if_neg c1, if_neg c2, if_neg c3, if_neg c4, if_neg c5, if_neg c6])
                rw [ea]
                exact ⟨_, rfl, p16_7, fun k hk => (g16_7 k hk).imp_right (fun h => Nat.le_trans (L1).size h), L28⟩
end Go.Proofs.Ytnmcbdbpafhinaa

namespace Go.Proofs.Ytnmcbdbpafhinaa
open Go Go.Sx Go.Num Go.Gsp Go.Lsp
set_option maxRecDepth 20000
set_option linter.unusedSimpArgs false
set_option linter.unusedVariables false
theorem LedgerWhole_ok {Aw Al : Option Addr} {nw cw nl cl : Nat} {own : List Int} {acts : List LAct} (w : World) (hO : Vec w iv 1 Aw nw own) (hl : Vec w lactV 17 Al nl acts) (hg : ∀ a ∈ acts, ActOk w a) (hcap : nl ≤ 9223372036854775807) : Calls Try.prog 4 #[.slice Aw nw cw, .slice Al nl cl] w fun r w' => r = .returned (.bool true) ∧ Le w w' := by
  have hon := hO.1
  have hln := hl.1
  refine enter Try.func4 rfl rfl ?_
  have L0 := Le.refl w
  refine WC.seq ?_
  refine WC.region ?_
  refine W.any (.assign rfl) rfl rfl rfl ?_
  refine W.nil ?_
  refine E.thenN ?_
  refine WC.seq ?_
  refine WC.region ?_
  refine W.ef rfl rfl rfl ?_
  refine Ef.call go11 rfl rfl (small46_ok w) ?_
  rintro _ w1_0 ⟨rfl, h1_0⟩
  refine ⟨_, rfl, ?_⟩
  have L1 := L0.trans h1_0
  refine W.any (.assign rfl) rfl rfl rfl ?_
  refine W.nil ?_
  refine E.thenN ?_
  refine WC.seq ?_
  refine WC.region ?_
  refine W.any (.move rfl) rfl rfl rfl ?_
  by_cases qc2_1 : newOk own
  · have hng := new_good qc2_1
    have hno := qc2_1
    obtain ⟨⟨z1, z2⟩, z3, z4⟩ := hno
    have z5 := sum_nn z3
    have ht0 : (⟨own, [], 0, [], 0, 0⟩ : Led).all - (⟨own, [], 0, [], 0, 0⟩ : Led).lost = own.sum := by rw [hng.2]; exact Int.sub_zero _
    refine W.ef rfl rfl rfl ?_
    refine Ef.call go18 rfl rfl (new_led w1_0 (hO.le L1) (qc2_1)) ?_
    rintro _ w2_1 ⟨gp2_1, F2_1, rfl, p2_1, h2_1⟩
    refine ⟨_, rfl, ?_⟩
    have L2 := L1.trans h2_1
    refine W.any (.assign rfl) rfl rfl rfl ?_
    refine W.nil ?_
    refine E.thenN ?_
    refine WC.seq ?_
    refine WC.seq ?_
    refine WC.region ?_
    refine W.any (.move rfl) rfl rfl rfl ?_
    refine W.any (.move rfl) rfl rfl rfl ?_
    refine W.ef rfl rfl rfl ?_
    refine Ef.call go19 rfl rfl (few46_ok w2_1 (hl.le L2) Aw nw cw (by omega)) ?_
    rintro _ w3_2 ⟨bf3_2, rfl, hbf3_2, h3_2⟩
    refine ⟨_, rfl, ?_⟩
    have L3 := L2.trans h3_2
    refine W.any (.not rfl) rfl rfl rfl ?_
    by_cases q3_4 : bf3_2 = true
    · refine W.any (.dec (.move rfl) (congrArg not (q3_4))) rfl rfl rfl ?_
      refine W.rdg (Any.rd (.move rfl) _) rfl rfl rfl (rfl) rfl rfl ?_
      refine W.rdg (Any.rd (.dec (.isNilP (by kernel_rfl) rfl) rfl) _) rfl rfl rfl (rfl) rfl rfl ?_
      refine W.any (.pickF rfl rfl rfl) rfl rfl rfl ?_
      refine W.nil ?_
      refine E.thenN ?_
      refine WC.condF rfl ?_
      obtain ⟨w1, w2, w3⟩ := hbf3_2 q3_4
      refine WC.skip ?_
      refine E.thenN ?_
      refine WC.seq ?_
      refine WC.region ?_
      refine W.any (.move rfl) rfl rfl rfl ?_
      have f4 := (p2_1.le h3_2)
      refine W.ef rfl rfl rfl ?_
      refine Ef.call go20 rfl rfl ((by have h := total_led (s := (⟨own, [], 0, [], 0, 0⟩ : Led)) f4; rw [ht0] at h; exact h)) ?_
      rintro _ w5_1 ⟨rfl, h5_1⟩
      refine ⟨_, rfl, ?_⟩
      have L5 := L3.trans h5_1
      refine W.any (.assign rfl) rfl rfl rfl ?_
      refine W.nil ?_
      refine E.thenN ?_
      refine WC.seq ?_
      refine WC.region ?_
      refine W.any (.assign rfl) rfl rfl rfl ?_
      refine W.nil ?_
      refine E.thenN ?_
      refine WC.seq ?_
      refine WC.seq ?_
      refine WC.region ?_
      refine W.any (.assign rfl) rfl rfl rfl ?_
      refine W.nil ?_
      refine E.thenN ?_
      refine WC.block ?_
      have f6 := (f4.le h5_1)
      refine WC.loop (ι := Nat) (fun k => [(0, .slice Aw nw cw), (1, .slice Al nl cl), (5, .bool true), (6, .pointer (some ⟨gp2_1, 0, none⟩)), (7, .int .i64 (own.sum)), (8, .int .i64 (((own.take k).sum))), (9, .int .i64 (((k : Nat) : Int)))]) (fun k wl0 => (k ≤ nw) ∧ Le w wl0 ∧ w5_1.heap.size ≤ wl0.heap.size ∧ LPool wl0 w1_0.heap.size gp2_1 F2_1 (⟨own, [], 0, [], 0, 0⟩ : Led)) (fun k => nw - k) 0 ?_ ?_ ?_
      · exact .cons rfl (.cons rfl (.cons rfl (.cons rfl (.cons rfl (.cons' rfl (int_eq (by simp)) (.cons rfl (.nil _)))))))
      · exact ⟨Nat.zero_le _, L5, Nat.le_refl _, f6⟩
      · rintro k wl0 ⟨hk, Ll0, zl0, f0_0⟩
        have hst := sum_take_le own z3 k
        have hst2 := sum_take_le own z3 (k + 1)
        refine WC.seq ?_
        refine WC.seq ?_
        refine WC.region ?_
        refine W.any (.move rfl) rfl rfl rfl ?_
        refine W.any (.move rfl) rfl rfl rfl ?_
        refine W.rd (.len Try.underlying41 rfl) rfl rfl rfl ?_
        refine W.any (.lss rfl rfl) rfl rfl rfl ?_
        refine W.nil ?_
        refine E.thenN ?_
        by_cases c1 : ((k : Nat) : Int) < ((nw : Nat) : Int)
        · refine WC.condY rfl (decide_eq_true c1) ?_
          refine WC.skip ?_
          refine E.thenN ?_
          refine WC.seq ?_
          refine WC.block ?_
          refine WC.region ?_
          refine W.any (.move rfl) rfl rfl rfl ?_
          refine W.any (.move rfl) rfl rfl rfl ?_
          refine W.any (.move rfl) rfl rfl rfl ?_
          refine W.any (.idxS (k) Try.underlying41 sz3 rfl rfl (hO.isSome iv_row (by omega)) (rfl) (by omega)) rfl rfl rfl ?_
          refine W.rd (.vone (v := .int .i64 ((own.getD k 0))) na3 rfl (hO.le Ll0) iv_row (getS own 0 (by first | omega | (simp only [List.length_cons, List.length_nil]; omega))) rfl) rfl rfl rfl ?_
          refine W.any (.add rfl rfl (by have := sum_take_next (l := own) (k := k) (by omega); omega)) rfl rfl rfl ?_
          refine W.any (.assign rfl) rfl rfl rfl ?_
          refine W.nil ?_
          refine E.blkN ?_
          refine E.thenN ?_
          refine WC.region ?_
          refine W.any (.move rfl) rfl rfl rfl ?_
          refine W.any (.add rfl rfl (by omega)) rfl rfl rfl ?_
          refine W.any (.assign rfl) rfl rfl rfl ?_
          refine W.nil ?_
          refine E.again (k + 1) (.cons rfl (.cons rfl (.cons rfl (.cons rfl (.cons rfl (.cons' rfl (int_eq (by rw [sum_take_next (by omega)])) (.cons rfl (.nil _)))))))) ?_ ?_
          · exact ⟨by omega, Ll0, by have := zl0; omega, f0_0⟩
          · first | omega | (simp only []; omega)
        · refine WC.condN rfl (decide_eq_false c1) ?_
          have hsum : (own.take k).sum = own.sum := by rw [List.take_of_length_le (by omega)]
          refine WC.exit ?_
          refine E.thenX ?_
          refine E.thenX ?_
          refine E.blkH ?_
          refine E.thenN ?_
          refine WC.seq ?_
          refine WC.seq ?_
          refine WC.region ?_
          refine W.any (.assign rfl) rfl rfl rfl ?_
          refine W.nil ?_
          refine E.thenN ?_
          refine WC.block ?_
          refine WC.loop (ι := Nat × (Nat → Prop) × Led) (fun ⟨i, F, s⟩ => [(0, .slice Aw nw cw), (1, .slice Al nl cl), (5, .bool true), (6, .pointer (some ⟨gp2_1, 0, none⟩)), (7, .int .i64 (own.sum)), (8, .int .i64 (((own.take k).sum))), (10, .int .i64 (((i : Nat) : Int)))]) (fun ⟨i, F, s⟩ wl1 => (i ≤ nl) ∧ (s.all = own.sum) ∧ (s.own.length = own.length) ∧ Le w wl1 ∧ wl0.heap.size ≤ wl1.heap.size ∧ LPool wl1 w1_0.heap.size gp2_1 F s) (fun ⟨i, F, s⟩ => nl - i) (0, F2_1, (⟨own, [], 0, [], 0, 0⟩ : Led)) ?_ ?_ ?_
          · exact .cons rfl (.cons rfl (.cons rfl (.cons rfl (.cons rfl (.cons rfl (.cons rfl (.nil _)))))))
          · exact ⟨Nat.zero_le _, hng.2, rfl, Ll0, Nat.le_refl _, f0_0⟩
          · rintro ⟨i, F, s⟩ wl1 ⟨hi, hsa, hsn, Ll1, zl1, f1_0⟩
            refine WC.seq ?_
            refine WC.seq ?_
            refine WC.region ?_
            refine W.any (.move rfl) rfl rfl rfl ?_
            refine W.any (.move rfl) rfl rfl rfl ?_
            refine W.rd (.len Try.underlying42 rfl) rfl rfl rfl ?_
            refine W.any (.lss rfl rfl) rfl rfl rfl ?_
            refine W.nil ?_
            refine E.thenN ?_
            by_cases c2 : ((i : Nat) : Int) < ((nl : Nat) : Int)
            · refine WC.condY rfl (decide_eq_true c2) ?_
              refine WC.skip ?_
              refine E.thenN ?_
              refine WC.seq ?_
              refine WC.block ?_
              refine WC.seq ?_
              refine WC.region ?_
              refine W.any (.move rfl) rfl rfl rfl ?_
              have hgs : GoodL s := f1_0.good
              refine W.ef rfl rfl rfl ?_
              refine Ef.call go21 rfl rfl (copy_led f1_0) ?_
              rintro _ w14_1 ⟨gp14_1, F14_1, rfl, p14_1, h14_1⟩
              refine ⟨_, rfl, ?_⟩
              have L7 := Ll1.trans h14_1
              refine W.any (.assign rfl) rfl rfl rfl ?_
              refine W.nil ?_
              refine E.thenN ?_
              refine WC.seq ?_
              refine WC.region ?_
              refine W.any (.move rfl) rfl rfl rfl ?_
              refine W.any (.move rfl) rfl rfl rfl ?_
              refine W.any (.move rfl) rfl rfl rfl ?_
              refine W.any (.idxS (i) Try.underlying42 sz52 rfl rfl (hl.isSome lactV_row (by omega)) (rfl) (by omega)) rfl rfl rfl ?_
              refine W.rd (.vload ag52 rfl (hl.le L7) lactV_row (getS acts noLAct (by first | omega | (simp only [List.length_cons, List.length_nil]; omega)))) rfl rfl rfl ?_
              have f8 := (f1_0.le h14_1)
              refine W.ef rfl rfl rfl ?_
              refine Ef.call go22 rfl rfl (done46_ok f8 ⟨hg _ (getD_mem (z := noLAct) (show i < acts.length by omega)), L7, L1.size⟩ (w3 _ (getD_mem (z := noLAct) (show i < acts.length by omega)))) ?_
              rintro _ w15_5 ⟨F15_5, rfl, p15_5, g15_5, h15_5⟩
              refine ⟨_, rfl, ?_⟩
              have L9 := L7.chP_then h15_5 (fun i hi => Nat.le_trans L1.size (f8.old hi))
              have zq10n := (show ∀ k, F14_1 k → ¬ F k from (fun k h1 h2 => by have := p14_1.old h1;  have := f1_0.lt h2; omega))
              have zq10 := p14_1.chP h15_5 zq10n
              have zq10g : ∀ k, F14_1 k → ¬ F15_5 k := fun k hk hF => (g15_5 _ hF).elim (zq10n k hk) (fun hz => by have := p14_1.lt hk; omega)
              refine W.any (.assign rfl) rfl rfl rfl ?_
              refine W.nil ?_
              refine E.thenN ?_
              refine WC.seq ?_
              refine WC.seq ?_
              refine WC.region ?_
              have hg2 := act_good hgs (acts.getD i noLAct)
              have hl2 := actL_len s (acts.getD i noLAct)
              refine W.any (.move rfl) rfl rfl rfl ?_
              refine W.ef rfl rfl rfl ?_
              refine Ef.call go20 rfl rfl (total_led (s := (actL s (acts.getD i noLAct)).1) p15_5) ?_
              rintro _ w16_1 ⟨rfl, h16_1⟩
              refine ⟨_, rfl, ?_⟩
              have L11 := L9.trans h16_1
              refine W.any (.move rfl) rfl rfl rfl ?_
              have f12 := (p15_5.le h16_1)
              refine W.ef rfl rfl rfl ?_
              refine Ef.call go17 rfl rfl (lost_led (s := (actL s (acts.getD i noLAct)).1) f12) ?_
              rintro _ w16_3 ⟨rfl, h16_3⟩
              refine ⟨_, rfl, ?_⟩
              have L13 := L11.trans h16_3
              refine W.any (.add rfl rfl (by omega)) rfl rfl rfl ?_
              refine W.any (.move rfl) rfl rfl rfl ?_
              refine W.any (.dec (.neq rfl rfl) (decide_eq_false (by omega))) rfl rfl rfl ?_
              refine W.any (.move rfl) rfl rfl rfl ?_
              refine W.rdg (Any.rd (.move rfl) _) rfl rfl rfl (rfl) rfl rfl ?_
              refine W.rdg (Any.rd (.dec (.isNilP (by kernel_rfl) rfl) rfl) _) rfl rfl rfl (rfl) rfl rfl ?_
              refine W.any (.pickF rfl rfl rfl) rfl rfl rfl ?_
              refine W.nil ?_
              refine E.thenN ?_
              refine WC.condF rfl ?_
              refine WC.skip ?_
              refine E.thenN ?_
              refine WC.seq ?_
              refine WC.seq ?_
              refine WC.region ?_
              refine W.any (.assign rfl) rfl rfl rfl ?_
              refine W.nil ?_
              refine E.thenN ?_
              refine WC.block ?_
              have f14 := (f12.le h16_3)
              have f15 := (zq10.le (h16_1.trans h16_3))
              refine WC.loop (ι := Nat) (fun p => [(0, .slice Aw nw cw), (1, .slice Al nl cl), (5, .bool true), (6, .pointer (some ⟨gp2_1, 0, none⟩)), (7, .int .i64 (own.sum)), (8, .int .i64 (((own.take k).sum))), (10, .int .i64 (((i : Nat) : Int))), (11, .pointer (some ⟨gp14_1, 0, none⟩)), (12, .int .i64 ((actL s (acts.getD i noLAct)).2)), (13, .int .i64 (((p : Nat) : Int)))]) (fun p wl2 => (p ≤ nw) ∧ Le w wl2 ∧ w16_3.heap.size ≤ wl2.heap.size ∧ LPool wl2 w1_0.heap.size gp2_1 F15_5 ((actL s (acts.getD i noLAct)).1) ∧ LPool wl2 wl1.heap.size gp14_1 F14_1 s) (fun p => nw - p) 0 ?_ ?_ ?_
              · exact .cons rfl (.cons rfl (.cons rfl (.cons rfl (.cons rfl (.cons rfl (.cons rfl (.cons rfl (.cons rfl (.cons rfl (.nil _))))))))))
              · exact ⟨Nat.zero_le _, L13, Nat.le_refl _, f14, f15⟩
              · rintro p wl2 ⟨hp, Ll2, zl2, f2_0, f2_1⟩
                have hwg := worth_ge hg2.1 ((p : Nat) : Int)
                refine WC.seq ?_
                refine WC.seq ?_
                refine WC.region ?_
                refine W.any (.move rfl) rfl rfl rfl ?_
                refine W.any (.move rfl) rfl rfl rfl ?_
                refine W.rd (.len Try.underlying41 rfl) rfl rfl rfl ?_
                refine W.any (.lss rfl rfl) rfl rfl rfl ?_
                refine W.nil ?_
                refine E.thenN ?_
                by_cases c4 : ((p : Nat) : Int) < ((nw : Nat) : Int)
                · refine WC.condY rfl (decide_eq_true c4) ?_
                  refine WC.skip ?_
                  refine E.thenN ?_
                  refine WC.seq ?_
                  refine WC.block ?_
                  refine WC.seq ?_
                  refine WC.region ?_
                  refine W.any (.move rfl) rfl rfl rfl ?_
                  refine W.any (.move rfl) rfl rfl rfl ?_
                  refine W.ef rfl rfl rfl ?_
                  refine Ef.call go16 rfl rfl (own_led (s := (actL s (acts.getD i noLAct)).1) ((p : Nat) : Int) f2_0) ?_
                  rintro _ w21_2 ⟨rfl, h21_2⟩
                  refine ⟨_, rfl, ?_⟩
                  have L16 := Ll2.trans h21_2
                  refine W.any (.dec (.lss rfl rfl) (decide_eq_false (by omega))) rfl rfl rfl ?_
                  refine W.any (.move rfl) rfl rfl rfl ?_
                  refine W.rdg (Any.rd (.move rfl) _) rfl rfl rfl (rfl) rfl rfl ?_
                  refine W.rdg (Any.rd (.move rfl) _) rfl rfl rfl (rfl) rfl rfl ?_
                  have f17 := (f2_0.le h21_2)
                  refine W.efg rfl rfl rfl (rfl) rfl rfl ?_
                  refine Ef.call go15 rfl rfl (worth_led (s := (actL s (acts.getD i noLAct)).1) ((p : Nat) : Int) f17) ?_
                  rintro _ w21_7 ⟨rfl, h21_7⟩
                  refine ⟨_, rfl, ?_⟩
                  have L18 := L16.trans h21_7
                  refine W.rdg (Any.rd (.move rfl) _) rfl rfl rfl (rfl) rfl rfl ?_
                  refine W.rdg (Any.rd (.move rfl) _) rfl rfl rfl (rfl) rfl rfl ?_
                  have f19 := (f17.le h21_7)
                  refine W.efg rfl rfl rfl (rfl) rfl rfl ?_
                  refine Ef.call go16 rfl rfl (own_led (s := (actL s (acts.getD i noLAct)).1) ((p : Nat) : Int) f19) ?_
                  rintro _ w21_10 ⟨rfl, h21_10⟩
                  refine ⟨_, rfl, ?_⟩
                  have L20 := L18.trans h21_10
                  refine W.rdg (Any.rd (.dec (.lss rfl rfl) (decide_eq_false (by omega))) _) rfl rfl rfl (rfl) rfl rfl ?_
                  refine W.any (.pickF rfl rfl rfl) rfl rfl rfl ?_
                  refine W.any (.move rfl) rfl rfl rfl ?_
                  refine W.rdg (Any.rd (.move rfl) _) rfl rfl rfl (rfl) rfl rfl ?_
                  refine W.rdg (Any.rd (.neq rfl rfl) _) rfl rfl rfl (rfl) rfl rfl ?_
                  by_cases q21_16 : ((actL s (acts.getD i noLAct)).2) ≠ 0
                  · refine W.rdg (Any.rd (.dec (.move rfl) (decide_eq_true q21_16)) _) rfl rfl rfl (rfl) rfl rfl ?_
                    refine W.rdg (Any.rd (.move rfl) _) rfl rfl rfl (rfl) rfl rfl ?_
                    refine W.rdg (Any.rd (.move rfl) _) rfl rfl rfl (rfl) rfl rfl ?_
                    have f21 := (f19.le h21_10)
                    refine W.efg rfl rfl rfl (rfl) rfl rfl ?_
                    refine Ef.call go15 rfl rfl (worth_led (s := (actL s (acts.getD i noLAct)).1) ((p : Nat) : Int) f21) ?_
                    rintro _ w21_19 ⟨rfl, h21_19⟩
                    refine ⟨_, rfl, ?_⟩
                    have L22 := L20.trans h21_19
                    refine W.rdg (Any.rd (.move rfl) _) rfl rfl rfl (rfl) rfl rfl ?_
                    refine W.rdg (Any.rd (.move rfl) _) rfl rfl rfl (rfl) rfl rfl ?_
                    have f23 := (f2_1.le (h21_2.trans (h21_7.trans (h21_10.trans h21_19))))
                    refine W.efg rfl rfl rfl (rfl) rfl rfl ?_
                    refine Ef.call go15 rfl rfl (worth_led (s := s) ((p : Nat) : Int) f23) ?_
                    rintro _ w21_22 ⟨rfl, h21_22⟩
                    refine ⟨_, rfl, ?_⟩
                    have L24 := L22.trans h21_22
                    refine W.rdg (Any.rd (.dec (.neq rfl rfl) (decide_eq_false (by rw [actL_err q21_16]; exact fun h => h rfl))) _) rfl rfl rfl (rfl) rfl rfl ?_
                    refine W.rdg (Any.rd (.pickT rfl rfl rfl) _) rfl rfl rfl (rfl) rfl rfl ?_
                    refine W.any (.pickF rfl rfl rfl) rfl rfl rfl ?_
                    refine W.nil ?_
                    refine E.thenN ?_
                    refine WC.condF rfl ?_
                    refine WC.skip ?_
                    refine E.blkN ?_
                    refine E.thenN ?_
                    refine WC.region ?_
                    refine W.any (.move rfl) rfl rfl rfl ?_
                    refine W.any (.add rfl rfl (by omega)) rfl rfl rfl ?_
                    refine W.any (.assign rfl) rfl rfl rfl ?_
                    refine W.nil ?_
                    have f25 := (f21.le (h21_19.trans h21_22))
                    have f26 := (f23.le h21_22)
                    refine E.again (p + 1) (.cons rfl (.cons rfl (.cons rfl (.cons rfl (.cons rfl (.cons rfl (.cons rfl (.cons rfl (.cons rfl (.cons rfl (.nil _))))))))))) ?_ ?_
                    · exact ⟨by omega, L24, by have := zl2; have := h21_2.size; have := h21_7.size; have := h21_10.size; have := h21_19.size; have := h21_22.size; omega, f25, f26⟩
                    · first | omega | (simp only []; omega)
                  · refine W.rdg (Any.rd (.dec (.move rfl) (decide_eq_false q21_16)) _) rfl rfl rfl (rfl) rfl rfl ?_
                    refine W.skip rfl rfl rfl (rfl) rfl rfl ?_
                    refine W.skip rfl rfl rfl (rfl) rfl rfl ?_
                    refine W.skip rfl rfl rfl (rfl) rfl rfl ?_
                    refine W.skip rfl rfl rfl (rfl) rfl rfl ?_
                    refine W.skip rfl rfl rfl (rfl) rfl rfl ?_
                    refine W.skip rfl rfl rfl (rfl) rfl rfl ?_
                    refine W.skip rfl rfl rfl (rfl) rfl rfl ?_
                    refine W.rdg (Any.rd (.pickF rfl rfl rfl) _) rfl rfl rfl (rfl) rfl rfl ?_
                    refine W.any (.pickF rfl rfl rfl) rfl rfl rfl ?_
                    refine W.nil ?_
                    refine E.thenN ?_
                    refine WC.condF rfl ?_
                    refine WC.skip ?_
                    refine E.blkN ?_
                    refine E.thenN ?_
                    refine WC.region ?_
                    refine W.any (.move rfl) rfl rfl rfl ?_
                    refine W.any (.add rfl rfl (by omega)) rfl rfl rfl ?_
                    refine W.any (.assign rfl) rfl rfl rfl ?_
                    refine W.nil ?_
                    have f27 := (f19.le h21_10)
                    have f28 := (f2_1.le (h21_2.trans (h21_7.trans h21_10)))
                    refine E.again (p + 1) (.cons rfl (.cons rfl (.cons rfl (.cons rfl (.cons rfl (.cons rfl (.cons rfl (.cons rfl (.cons rfl (.cons rfl (.nil _))))))))))) ?_ ?_
                    · exact ⟨by omega, L20, by have := zl2; have := h21_2.size; have := h21_7.size; have := h21_10.size; omega, f27, f28⟩
                    · first | omega | (simp only []; omega)
                · refine WC.condN rfl (decide_eq_false c4) ?_
                  refine WC.exit ?_
                  refine E.thenX ?_
                  refine E.thenX ?_
                  refine E.blkH ?_
                  refine E.thenN ?_
                  refine WC.seq ?_
                  refine WC.region ?_
                  refine W.any (.move rfl) rfl rfl rfl ?_
                  refine W.ef rfl rfl rfl ?_
                  refine Ef.call go23 rfl rfl (seats_led (s := (actL s (acts.getD i noLAct)).1) f2_0) ?_
                  rintro _ w23_1 ⟨A23_1, c23_1, rfl, o23_1, h23_1⟩
                  refine ⟨_, rfl, ?_⟩
                  have L29 := Ll2.trans h23_1
                  refine W.any (.assign rfl) rfl rfl rfl ?_
                  refine W.nil ?_
                  refine E.thenN ?_
                  refine WC.seq ?_
                  refine WC.seq ?_
                  refine WC.region ?_
                  refine W.any (.assign rfl) rfl rfl rfl ?_
                  refine W.nil ?_
                  refine E.thenN ?_
                  refine WC.block ?_
                  have f30 := (f2_0.le h23_1)
                  have f31 := (f2_1.le h23_1)
                  refine WC.loop (ι := Nat) (fun q => [(0, .slice Aw nw cw), (1, .slice Al nl cl), (5, .bool true), (6, .pointer (some ⟨gp2_1, 0, none⟩)), (7, .int .i64 (own.sum)), (8, .int .i64 (((own.take k).sum))), (10, .int .i64 (((i : Nat) : Int))), (11, .pointer (some ⟨gp14_1, 0, none⟩)), (12, .int .i64 ((actL s (acts.getD i noLAct)).2)), (14, .slice A23_1 ((seatsL ((actL s (acts.getD i noLAct)).1).ls).length) c23_1), (15, .int .i64 (((q : Nat) : Int)))]) (fun q wl3 => (q ≤ (seatsL (actL s (acts.getD i noLAct)).1.ls).length) ∧ Le w wl3 ∧ w23_1.heap.size ≤ wl3.heap.size ∧ LPool wl3 w1_0.heap.size gp2_1 F15_5 ((actL s (acts.getD i noLAct)).1) ∧ LPool wl3 wl1.heap.size gp14_1 F14_1 s ∧ OVec wl3 wl2.heap.size 33 seatV 5 A23_1 ((seatsL ((actL s (acts.getD i noLAct)).1).ls).length) c23_1 (seatsL ((actL s (acts.getD i noLAct)).1).ls)) (fun q => (seatsL (actL s (acts.getD i noLAct)).1.ls).length - q) 0 ?_ ?_ ?_
                  · exact .cons rfl (.cons rfl (.cons rfl (.cons rfl (.cons rfl (.cons rfl (.cons rfl (.cons rfl (.cons rfl (.cons rfl (.cons rfl (.nil _)))))))))))
                  · exact ⟨Nat.zero_le _, L29, Nat.le_refl _, f30, f31, o23_1⟩
                  · rintro q wl3 ⟨hq, Ll3, zl3, f3_0, f3_1, f3_2⟩
                    have lb3_5 : wl2.heap.size ≤ wl3.heap.size := by have := h23_1.size; omega
                    have hsl := seatsL_len (actL s (acts.getD i noLAct)).1.ls
                    have hfew := hg2.1.few
                    refine WC.seq ?_
                    refine WC.seq ?_
                    refine WC.region ?_
                    refine W.any (.move rfl) rfl rfl rfl ?_
                    refine W.any (.move rfl) rfl rfl rfl ?_
                    refine W.rd (.len Try.underlying50 rfl) rfl rfl rfl ?_
                    refine W.any (.lss rfl rfl) rfl rfl rfl ?_
                    refine W.nil ?_
                    refine E.thenN ?_
                    by_cases c6 : ((q : Nat) : Int) < (((seatsL ((actL s (acts.getD i noLAct)).1).ls).length : Nat) : Int)
                    · refine WC.condY rfl (decide_eq_true c6) ?_
                      obtain ⟨cc, cc1, cc2, cc3, cc4⟩ := seatsL_at hg2.1 (k := q) (by omega)
                      have cc5 := cc4.2.2.2.1
                      have cc6 := cc4.2.2.2.2
                      refine WC.skip ?_
                      refine E.thenN ?_
                      refine WC.seq ?_
                      refine WC.block ?_
                      refine WC.seq ?_
                      refine WC.draw [0, 1, 2, 3, 4, 5, 6, 7, 8, 9, 10, 11, 12, 13, 14, 15, 16, 17, 18, 19, 20, 21, 22, 23, 24, 25, 26, 27, 28, 29, 30, 31, 32, 33] mixed (by kernel_rfl) ?_
                      intro w27 d27
                      have L32 := Ll3.trans d27
                      refine G.any rfl rfl (.move rfl) rfl rfl rfl ?_
                      refine G.any rfl rfl (.move rfl) rfl rfl rfl ?_
                      refine G.any rfl rfl (.idxS (q) Try.underlying50 sz33 rfl rfl (o23_1.vec.isSome seatV_row (by omega)) (rfl) (by omega)) rfl rfl rfl ?_
                      refine G.any rfl rfl (.vfield fa33_2 (o23_1.vec.isSome seatV_row (by omega)) rfl) rfl rfl rfl ?_
                      refine G.any rfl rfl (.vidx (0) Try.underlying31 sz3 (o23_1.vec.isSome seatV_row (by omega)) rfl rfl (rfl) (by omega)) rfl rfl rfl ?_
                      have f33 := (f3_2.le d27)
                      refine G.rd rfl rfl (.vcell (j := q) (o := 3) (v := .int .i64 (((seatsL ((actL s (acts.getD i noLAct)).1).ls).getD q noSeat).h0)) na3 rfl f33.vec seatV_row (getS (seatsL ((actL s (acts.getD i noLAct)).1).ls) noSeat (by first | omega | (simp only [List.length_cons, List.length_nil]; omega))) rfl) rfl rfl rfl ?_
                      refine G.any rfl rfl (.dec (.lss rfl rfl) (decide_eq_false (by omega))) rfl rfl rfl ?_
                      refine G.any rfl rfl (.move rfl) rfl rfl rfl ?_
                      refine G.anyg rfl rfl (.move rfl) rfl rfl rfl (rfl) rfl rfl ?_
                      refine G.anyg rfl rfl (.move rfl) rfl rfl rfl (rfl) rfl rfl ?_
                      refine G.anyg rfl rfl (.idxS (q) Try.underlying50 sz33 rfl rfl (o23_1.vec.isSome seatV_row (by omega)) (rfl) (by omega)) rfl rfl rfl (rfl) rfl rfl ?_
                      refine G.anyg rfl rfl (.vfield fa33_2 (o23_1.vec.isSome seatV_row (by omega)) rfl) rfl rfl rfl (rfl) rfl rfl ?_
                      refine G.anyg rfl rfl (.vidx (1) Try.underlying31 sz3 (o23_1.vec.isSome seatV_row (by omega)) rfl rfl (rfl) (by omega)) rfl rfl rfl (rfl) rfl rfl ?_
                      refine G.rdg rfl rfl (.vcell (j := q) (o := 4) (v := .int .i64 (((seatsL ((actL s (acts.getD i noLAct)).1).ls).getD q noSeat).h1)) na3 rfl f33.vec seatV_row (getS (seatsL ((actL s (acts.getD i noLAct)).1).ls) noSeat (by first | omega | (simp only [List.length_cons, List.length_nil]; omega))) rfl) rfl rfl rfl (rfl) rfl rfl ?_
                      refine G.anyg rfl rfl (.dec (.lss rfl rfl) (decide_eq_false (by omega))) rfl rfl rfl (rfl) rfl rfl ?_
                      refine G.any rfl rfl (.pickF rfl rfl rfl) rfl rfl rfl ?_
                      refine G.any rfl rfl (.move rfl) rfl rfl rfl ?_
                      refine G.anyg rfl rfl (.move rfl) rfl rfl rfl (rfl) rfl rfl ?_
                      refine G.anyg rfl rfl (.gtr rfl rfl) rfl rfl rfl (rfl) rfl rfl ?_
                      by_cases q27_19 : 0 < ((q : Nat) : Int)
                      · refine G.anyg rfl rfl (.dec (.move rfl) (decide_eq_true q27_19)) rfl rfl rfl (rfl) rfl rfl ?_
                        refine G.anyg rfl rfl (.move rfl) rfl rfl rfl (rfl) rfl rfl ?_
                        refine G.anyg rfl rfl (.move rfl) rfl rfl rfl (rfl) rfl rfl ?_
                        refine G.anyg rfl rfl (.idxS (q) Try.underlying50 sz33 rfl rfl (o23_1.vec.isSome seatV_row (by omega)) (rfl) (by omega)) rfl rfl rfl (rfl) rfl rfl ?_
                        refine G.anyg rfl rfl (.vfield fa33_0 (o23_1.vec.isSome seatV_row (by omega)) rfl) rfl rfl rfl (rfl) rfl rfl ?_
                        refine G.rdg rfl rfl (.vcell (j := q) (o := 0) (v := .int .i64 (((seatsL ((actL s (acts.getD i noLAct)).1).ls).getD q noSeat).ch)) na3 rfl f33.vec seatV_row (getS (seatsL ((actL s (acts.getD i noLAct)).1).ls) noSeat (by first | omega | (simp only [List.length_cons, List.length_nil]; omega))) rfl) rfl rfl rfl (rfl) rfl rfl ?_
                        refine G.anyg rfl rfl (.move rfl) rfl rfl rfl (rfl) rfl rfl ?_
                        refine G.anyg rfl rfl (.move rfl) rfl rfl rfl (rfl) rfl rfl ?_
                        refine G.anyg rfl rfl (.sub rfl rfl (by omega)) rfl rfl rfl (rfl) rfl rfl ?_
                        refine G.anyg rfl rfl (.idxS ((q - 1)) Try.underlying50 sz33 rfl rfl (o23_1.vec.isSome seatV_row (by omega)) (by omega) (by omega)) rfl rfl rfl (rfl) rfl rfl ?_
                        refine G.anyg rfl rfl (.vfield fa33_0 (o23_1.vec.isSome seatV_row (by omega)) rfl) rfl rfl rfl (rfl) rfl rfl ?_
                        refine G.rdg rfl rfl (.vcell (j := (q - 1)) (o := 0) (v := .int .i64 (((seatsL ((actL s (acts.getD i noLAct)).1).ls).getD (q - 1) noSeat).ch)) na3 rfl f33.vec seatV_row (getS (seatsL ((actL s (acts.getD i noLAct)).1).ls) noSeat (by first | omega | (simp only [List.length_cons, List.length_nil]; omega))) rfl) rfl rfl rfl (rfl) rfl rfl ?_
                        refine G.anyg rfl rfl (.dec (.leq rfl rfl) (decide_eq_false (by have := seatsL_srt hg2.1 (show 0 < q by omega) (show q < (actL s (acts.getD i noLAct)).1.ls.length by omega); omega))) rfl rfl rfl (rfl) rfl rfl ?_
                        refine G.anyg rfl rfl (.pickT rfl rfl rfl) rfl rfl rfl (rfl) rfl rfl ?_
                        refine G.any rfl rfl (.pickF rfl rfl rfl) rfl rfl rfl ?_
                        refine G.nil ?_
                        refine E.thenN ?_
                        refine WC.condF rfl ?_
                        refine WC.skip ?_
                        refine E.blkN ?_
                        refine E.thenN ?_
                        refine WC.region ?_
                        refine W.any (.move rfl) rfl rfl rfl ?_
                        refine W.any (.add rfl rfl (by omega)) rfl rfl rfl ?_
                        refine W.any (.assign rfl) rfl rfl rfl ?_
                        refine W.nil ?_
                        have f34 := (f3_0.le d27)
                        have f35 := (f3_1.le d27)
                        refine E.again (q + 1) (.cons rfl (.cons rfl (.cons rfl (.cons rfl (.cons rfl (.cons rfl (.cons rfl (.cons rfl (.cons rfl (.cons rfl (.cons rfl (.nil _)))))))))))) ?_ ?_
                        · exact ⟨by omega, L32, by have := zl3; have := d27.size; omega, f34, f35, f33⟩
                        · first | omega | (simp only []; omega)
                      · refine G.anyg rfl rfl (.dec (.move rfl) (decide_eq_false q27_19)) rfl rfl rfl (rfl) rfl rfl ?_
                        refine G.skip rfl rfl rfl rfl (rfl) rfl rfl ?_
                        refine G.skip rfl rfl rfl rfl (rfl) rfl rfl ?_
                        refine G.skip rfl rfl rfl rfl (rfl) rfl rfl ?_
                        refine G.skip rfl rfl rfl rfl (rfl) rfl rfl ?_
                        refine G.skip rfl rfl rfl rfl (rfl) rfl rfl ?_
                        refine G.skip rfl rfl rfl rfl (rfl) rfl rfl ?_
                        refine G.skip rfl rfl rfl rfl (rfl) rfl rfl ?_
                        refine G.skip rfl rfl rfl rfl (rfl) rfl rfl ?_
                        refine G.skip rfl rfl rfl rfl (rfl) rfl rfl ?_
                        refine G.skip rfl rfl rfl rfl (rfl) rfl rfl ?_
                        refine G.skip rfl rfl rfl rfl (rfl) rfl rfl ?_
                        refine G.skip rfl rfl rfl rfl (rfl) rfl rfl ?_
                        refine G.anyg rfl rfl (.pickF rfl rfl rfl) rfl rfl rfl (rfl) rfl rfl ?_
                        refine G.any rfl rfl (.pickF rfl rfl rfl) rfl rfl rfl ?_
                        refine G.nil ?_
                        refine E.thenN ?_
                        refine WC.condF rfl ?_
                        refine WC.skip ?_
                        refine E.blkN ?_
                        refine E.thenN ?_
                        refine WC.region ?_
                        refine W.any (.move rfl) rfl rfl rfl ?_
                        refine W.any (.add rfl rfl (by omega)) rfl rfl rfl ?_
                        refine W.any (.assign rfl) rfl rfl rfl ?_
                        refine W.nil ?_
                        have f36 := (f3_0.le d27)
                        have f37 := (f3_1.le d27)
                        refine E.again (q + 1) (.cons rfl (.cons rfl (.cons rfl (.cons rfl (.cons rfl (.cons rfl (.cons rfl (.cons rfl (.cons rfl (.cons rfl (.cons rfl (.nil _)))))))))))) ?_ ?_
                        · exact ⟨by omega, L32, by have := zl3; have := d27.size; omega, f36, f37, f33⟩
                        · first | omega | (simp only []; omega)
                    · refine WC.condN rfl (decide_eq_false c6) ?_
                      refine WC.exit ?_
                      refine E.thenX ?_
                      refine E.thenX ?_
                      refine E.blkH ?_
                      refine E.thenN ?_
                      refine WC.seq ?_
                      refine WC.region ?_
                      refine W.any (.move rfl) rfl rfl rfl ?_
                      refine W.any (.neq rfl rfl) rfl rfl rfl ?_
                      by_cases q29_2 : ((actL s (acts.getD i noLAct)).2) ≠ 0
                      · refine W.any (.dec (.move rfl) (decide_eq_true q29_2)) rfl rfl rfl ?_
                        refine W.rdg (Any.rd (.move rfl) _) rfl rfl rfl (rfl) rfl rfl ?_
                        refine W.rdg (.len Try.underlying50 rfl) rfl rfl rfl (rfl) rfl rfl ?_
                        refine W.rdg (Any.rd (.move rfl) _) rfl rfl rfl (rfl) rfl rfl ?_
                        refine W.efg rfl rfl rfl (rfl) rfl rfl ?_
                        refine Ef.call go23 rfl rfl (seats_led (s := s) f3_1) ?_
                        rintro _ w29_6 ⟨A29_6, c29_6, rfl, o29_6, h29_6⟩
                        refine ⟨_, rfl, ?_⟩
                        have L38 := Ll3.trans h29_6
                        refine W.rdg (.len Try.underlying50 rfl) rfl rfl rfl (rfl) rfl rfl ?_
                        refine W.rdg (Any.rd (.dec (.neq rfl rfl) (decide_eq_false (by rw [actL_err q29_2]; exact fun h => h rfl))) _) rfl rfl rfl (rfl) rfl rfl ?_
                        refine W.rdg (Any.rd (.move rfl) _) rfl rfl rfl (rfl) rfl rfl ?_
                        refine W.rdg (Any.rd (.move rfl) _) rfl rfl rfl (rfl) rfl rfl ?_
                        have f39 := (f3_0.le h29_6)
                        refine W.efg rfl rfl rfl (rfl) rfl rfl ?_
                        refine Ef.call go17 rfl rfl (lost_led (s := (actL s (acts.getD i noLAct)).1) f39) ?_
                        rintro _ w29_11 ⟨rfl, h29_11⟩
                        refine ⟨_, rfl, ?_⟩
                        have L40 := L38.trans h29_11
                        refine W.rdg (Any.rd (.move rfl) _) rfl rfl rfl (rfl) rfl rfl ?_
                        have f41 := (f3_1.le (h29_6.trans h29_11))
                        refine W.efg rfl rfl rfl (rfl) rfl rfl ?_
                        refine Ef.call go17 rfl rfl (lost_led (s := s) f41) ?_
                        rintro _ w29_13 ⟨rfl, h29_13⟩
                        refine ⟨_, rfl, ?_⟩
                        have L42 := L40.trans h29_13
                        refine W.rdg (Any.rd (.dec (.neq rfl rfl) (decide_eq_false (by rw [actL_err q29_2]; exact fun h => h rfl))) _) rfl rfl rfl (rfl) rfl rfl ?_
                        refine W.rdg (Any.rd (.pickF rfl rfl rfl) _) rfl rfl rfl (rfl) rfl rfl ?_
                        refine W.any (.pickT rfl rfl rfl) rfl rfl rfl ?_
                        refine W.nil ?_
                        refine E.thenN ?_
                        refine WC.condF rfl ?_
                        refine WC.skip ?_
                        refine E.blkN ?_
                        refine E.thenN ?_
                        refine WC.region ?_
                        refine W.any (.move rfl) rfl rfl rfl ?_
                        refine W.any (.add rfl rfl (by omega)) rfl rfl rfl ?_
                        refine W.any (.assign rfl) rfl rfl rfl ?_
                        refine W.nil ?_
                        have f43 := (f39.le (h29_11.trans h29_13))
                        refine E.again (i + 1, F15_5, (actL s (acts.getD i noLAct)).1) (.cons rfl (.cons rfl (.cons rfl (.cons rfl (.cons rfl (.cons rfl (.cons rfl (.nil _)))))))) ?_ ?_
                        · exact ⟨by omega, by rw [hg2.2]; exact hsa, by rw [hl2]; exact hsn, L42, by have := zl1; have := h29_6.size; have := h29_11.size; have := h29_13.size; have := zl0; have := zl2; have := zl3; have := h1_0.size; have := h2_1.size; have := h3_2.size; have := h5_1.size; have := h14_1.size; have := h15_5.size; have := h16_1.size; have := h16_3.size; have := h23_1.size; omega, f43⟩
                        · first | omega | (simp only []; omega)
                      · refine W.any (.dec (.move rfl) (decide_eq_false q29_2)) rfl rfl rfl ?_
                        refine W.skip rfl rfl rfl (rfl) rfl rfl ?_
                        refine W.skip rfl rfl rfl (rfl) rfl rfl ?_
                        refine W.skip rfl rfl rfl (rfl) rfl rfl ?_
                        refine W.skip rfl rfl rfl (rfl) rfl rfl ?_
                        refine W.skip rfl rfl rfl (rfl) rfl rfl ?_
                        refine W.skip rfl rfl rfl (rfl) rfl rfl ?_
                        refine W.skip rfl rfl rfl (rfl) rfl rfl ?_
                        refine W.skipu rfl rfl rfl rfl rfl ?_
                        refine W.skipu rfl rfl rfl rfl rfl ?_
                        refine W.skipu rfl rfl rfl rfl rfl ?_
                        refine W.skipu rfl rfl rfl rfl rfl ?_
                        refine W.skipu rfl rfl rfl rfl rfl ?_
                        refine W.skip rfl rfl rfl (rfl) rfl rfl ?_
                        refine W.any (.pickF rfl rfl rfl) rfl rfl rfl ?_
                        refine W.nil ?_
                        refine E.thenN ?_
                        refine WC.condF rfl ?_
                        refine WC.skip ?_
                        refine E.blkN ?_
                        refine E.thenN ?_
                        refine WC.region ?_
                        refine W.any (.move rfl) rfl rfl rfl ?_
                        refine W.any (.add rfl rfl (by omega)) rfl rfl rfl ?_
                        refine W.any (.assign rfl) rfl rfl rfl ?_
                        refine W.nil ?_
                        refine E.again (i + 1, F15_5, (actL s (acts.getD i noLAct)).1) (.cons rfl (.cons rfl (.cons rfl (.cons rfl (.cons rfl (.cons rfl (.cons rfl (.nil _)))))))) ?_ ?_
                        · exact ⟨by omega, by rw [hg2.2]; exact hsa, by rw [hl2]; exact hsn, Ll3, by have := zl1; have := zl0; have := zl2; have := zl3; have := h1_0.size; have := h2_1.size; have := h3_2.size; have := h5_1.size; have := h14_1.size; have := h15_5.size; have := h16_1.size; have := h16_3.size; have := h23_1.size; omega, f3_0⟩
                        · first | omega | (simp only []; omega)
            · refine WC.condN rfl (decide_eq_false c2) ?_
              refine WC.exit ?_
              refine E.thenX ?_
              refine E.thenX ?_
              refine E.blkH ?_
              refine E.thenN ?_
              refine WC.seq ?_
              refine WC.region ?_
              refine W.any (.move rfl) rfl rfl rfl ?_
              refine W.any (.move rfl) rfl rfl rfl ?_
              refine W.rdg (Any.rd (.move rfl) _) rfl rfl rfl (rfl) rfl rfl ?_
              refine W.rdg (Any.rd (.move rfl) _) rfl rfl rfl (rfl) rfl rfl ?_
              refine W.rdg (Any.rd (.dec (.eql rfl rfl) (decide_eq_true (by omega))) _) rfl rfl rfl (rfl) rfl rfl ?_
              refine W.any (.pickT rfl rfl rfl) rfl rfl rfl ?_
              refine W.any (.assign rfl) rfl rfl rfl ?_
              refine W.nil ?_
              refine E.thenN ?_
              refine WC.ret ?_
              refine E.retG1 rfl rfl ?_
              exact ⟨rfl, Ll1⟩
    · refine W.any (.dec (.move rfl) (congrArg not ((Bool.eq_false_iff.2 q3_4)))) rfl rfl rfl ?_
      refine W.skip rfl rfl rfl (rfl) rfl rfl ?_
      refine W.skip rfl rfl rfl (rfl) rfl rfl ?_
      refine W.any (.pickT rfl rfl rfl) rfl rfl rfl ?_
      refine W.nil ?_
      refine E.thenN ?_
      refine WC.condT rfl ?_
      refine WC.seq ?_
      refine WC.region ?_
      refine W.any (.move rfl) rfl rfl rfl ?_
      refine W.any (.assign rfl) rfl rfl rfl ?_
      refine W.nil ?_
      refine E.thenN ?_
      refine WC.ret ?_
      refine E.thenR ?_
      refine E.retG1 rfl rfl ?_
      exact ⟨rfl, L3⟩
  · refine W.ef rfl rfl rfl ?_
    refine Ef.call go18 rfl rfl (new_none w1_0 (hO.le L1) (qc2_1)) ?_
    rintro _ w2_1_1 ⟨rfl, h2_1_1⟩
    refine ⟨_, rfl, ?_⟩
    have L44 := L1.trans h2_1_1
    refine W.any (.assign rfl) rfl rfl rfl ?_
    refine W.nil ?_
    refine E.thenN ?_
    refine WC.seq ?_
    refine WC.seq ?_
    refine WC.region ?_
    refine W.any (.move rfl) rfl rfl rfl ?_
    refine W.any (.move rfl) rfl rfl rfl ?_
    refine W.ef rfl rfl rfl ?_
    refine Ef.call go19 rfl rfl (few46_ok w2_1_1 (hl.le L44) Aw nw cw (by omega)) ?_
    rintro _ w3_2_1 ⟨bf3_2_1, rfl, hbf3_2_1, h3_2_1⟩
    refine ⟨_, rfl, ?_⟩
    have L45 := L44.trans h3_2_1
    refine W.any (.not rfl) rfl rfl rfl ?_
    by_cases q3_4 : bf3_2_1 = true
    · refine W.any (.dec (.move rfl) (congrArg not (q3_4))) rfl rfl rfl ?_
      refine W.rdg (Any.rd (.move rfl) _) rfl rfl rfl (rfl) rfl rfl ?_
      refine W.rdg (Any.rd (.dec (.isNilP (by kernel_rfl) rfl) rfl) _) rfl rfl rfl (rfl) rfl rfl ?_
      refine W.any (.pickF rfl rfl rfl) rfl rfl rfl ?_
      refine W.nil ?_
      refine E.thenN ?_
      refine WC.condT rfl ?_
      refine WC.seq ?_
      refine WC.region ?_
      refine W.any (.move rfl) rfl rfl rfl ?_
      refine W.any (.assign rfl) rfl rfl rfl ?_
      refine W.nil ?_
      refine E.thenN ?_
      refine WC.ret ?_
      refine E.thenR ?_
      refine E.retG1 rfl rfl ?_
      exact ⟨rfl, L45⟩
    · refine W.any (.dec (.move rfl) (congrArg not ((Bool.eq_false_iff.2 q3_4)))) rfl rfl rfl ?_
      refine W.skip rfl rfl rfl (rfl) rfl rfl ?_
      refine W.skip rfl rfl rfl (rfl) rfl rfl ?_
      refine W.any (.pickT rfl rfl rfl) rfl rfl rfl ?_
      refine W.nil ?_
      refine E.thenN ?_
      refine WC.condT rfl ?_
      refine WC.seq ?_
      refine WC.region ?_
      refine W.any (.move rfl) rfl rfl rfl ?_
      refine W.any (.assign rfl) rfl rfl rfl ?_
      refine W.nil ?_
      refine E.thenN ?_
      refine WC.ret ?_
      refine E.thenR ?_
      refine E.retG1 rfl rfl ?_
      exact ⟨rfl, L45⟩
end Go.Proofs.Ytnmcbdbpafhinaa

