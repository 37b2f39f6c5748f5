/- LedgerPays: for every input the law answers true and leaves its arguments as they were. -/
import Derived.Test.YtnmcbdbpafhinaaLedgerPaysL
import Derived.OrdersHeld
import Derived.WalkKit
import Derived.Deep.AppendSrc
import Derived.Deep.MidRow
import Derived.Laws.OwnMore
import Derived.WalkSpells
import Derived.Lib.ConvBytes
import Derived.Lib.AppendZerosOnto
import Derived.Laws.StructEq
import Derived.Maps.RangeRun
import Derived.Laws.Pointers
import Derived.Test.YtnmcbdbpafhinaaProg
import Derived.KernelRfl
import Derived.Lib.Mul64
import Derived.Shelf.SlIterI.Nil
import Derived.Shelf.SortM.Plain
import Derived.Shelf.SortM.SortNone
import Derived.Ground.GgzProg
import Derived.Ground.SlgmProg
namespace Go.Proofs.Ytnmcbdbpafhinaa
open Go Go.Sx Go.Num Go.Gsp Go.Lsp
set_option maxRecDepth 20000
set_option linter.unusedSimpArgs false
set_option linter.unusedVariables false
theorem eqv_pairV {d : Nat} (a b : Pair) : Eqv Try.prog (d + 2) 31 (.agg (pairV a).toArray) (.agg (pairV b).toArray) (decide (a = b)) := by
  have h := Eqv.arr (P := Try.prog) (d := d + 1) (xs := (pairV a).toArray) (ys := (pairV b).toArray) (fun i => decide (a.ix i = b.ix i)) (fun i => .int .i64 (a.ix i)) (fun i => .int .i64 (b.ix i)) Try.underlying31 sz3 (fun i hi w => run_part1 na3 (by rw [Nat.mul_one]; exact pair_ix a hi) w) (fun i hi w => run_part1 na3 (by rw [Nat.mul_one]; exact pair_ix b hi) w) (fun i hi => Eqv.int (P := Try.prog) _ _ Try.underlying3)
  have e : ((List.range 2).all fun i => decide (a.ix i = b.ix i)) = decide (a = b) := by
    obtain ⟨a1, a2⟩ := a
    obtain ⟨b1, b2⟩ := b
    rw [Bool.eq_iff_iff]
    simp [List.range_succ, Pair.ix]
  rw [e] at h
  exact h
namespace S46
def s0 : Led := ⟨[100, 100, 50], [], 0, [], 0, 0⟩
def s1 : Led := (openL s0 (⟨3, 0, 1, 60, 0⟩ : Seat) 5).1
theorem e1 : openL s0 (⟨3, 0, 1, 60, 0⟩ : Seat) 5 = (s1, 0) := by decide +kernel
theorem e2 : openL s1 (⟨3, 1, 2, 0, 0⟩ : Seat) 0 = (s1, 4) := by decide +kernel
theorem e3 : openL s1 (⟨4, 0, 1, 36, 0⟩ : Seat) 0 = (s1, 8) := by decide +kernel
theorem e4 : ownL s1.own 0 = 35 := by decide +kernel
theorem e5 : worthL s1.own s1.ls s1.lh 0 = 95 := by decide +kernel
def s6 : Led := (offerL s1 3 0 1 40 16).1
theorem e6 : offerL s1 3 0 1 40 16 = (s6, 0) := by decide +kernel
theorem e7 : heldL s6.lh 3 0 = 40 := by decide +kernel
theorem e8 : worthL s6.own s6.ls s6.lh 0 = 95 := by decide +kernel
theorem e9 : closeL s6 3 (⟨0, 0⟩ : Pair) = (s6, 14) := by decide +kernel
theorem e10 : settleL s6 3 0 1 3 = (s6, 23) := by decide +kernel
def s11 : Led := (settleL s6 3 0 1 2).1
theorem e11 : settleL s6 3 0 1 2 = (s11, 0) := by decide +kernel
theorem e12 : worthL s11.own s11.ls s11.lh 1 = 140 := by decide +kernel
theorem e13 : failL s11 3 0 1 = (s11, 5) := by decide +kernel
def s14 : Led := (openL s11 (⟨7, 1, 2, 30, 10⟩ : Seat) 0).1
theorem e14 : openL s11 (⟨7, 1, 2, 30, 10⟩ : Seat) 0 = (s14, 0) := by decide +kernel
def s15 : Led := (payL s14 [(⟨3, 0, 12⟩ : Leg), (⟨7, 0, 11⟩ : Leg)]).1
theorem e15 : payL s14 [(⟨3, 0, 12⟩ : Leg), (⟨7, 0, 11⟩ : Leg)] = (s15, 0) := by decide +kernel
theorem e16 : worthL s15.own s15.ls s15.lh 2 = 61 := by decide +kernel
theorem e17 : payL s15 [(⟨3, 0, 1⟩ : Leg), (⟨7, 0, 99⟩ : Leg)] = (s15, 8) := by decide +kernel
theorem e18 : worthL s15.own s15.ls s15.lh 0 = 43 := by decide +kernel
def s19 : Led := (cutL s15 [3, 7] [(⟨3, 0, 2, 8, 21⟩ : Seat), (⟨9, 1, 0, 70, 0⟩ : Seat)] [0, 1, 0]).1
theorem e19 : cutL s15 [3, 7] [(⟨3, 0, 2, 8, 21⟩ : Seat), (⟨9, 1, 0, 70, 0⟩ : Seat)] [0, 1, 0] = (s19, 0) := by decide +kernel
def s20 : Led := (spliceL s19 9 (⟨(-20), 30⟩ : Pair) (⟨2, 0⟩ : Pair)).1
theorem e20 : spliceL s19 9 (⟨(-20), 30⟩ : Pair) (⟨2, 0⟩ : Pair) = (s20, 0) := by decide +kernel
theorem e21 : ownL s20.own 1 = 88 := by decide +kernel
theorem e22 : ownL s20.own 0 = 5 := by decide +kernel
theorem f1 : seatAt' s20.ls 9 = ⟨9, 1, 0, 50, 30⟩ := by decide +kernel
theorem f2 : (getG 9 s20.ls).isSome = true := by decide +kernel
theorem f3 : (seatsL s20.ls).length = 2 := by decide +kernel
theorem f4 : s20.all - s20.lost = 242 := by decide +kernel
theorem f5 : s20.lost = 8 := by decide +kernel
end S46
open S46
theorem small46_ok (w : World) : Calls Try.prog 11 #[] w fun r w' => r = .returned (.bool true) ∧ Le w w' := by
  refine enter Try.func11 rfl rfl ?_
  have L0 := Le.refl w
  refine WC.seq ?_
  refine WC.region ?_
  refine W.any (.assign rfl) rfl rfl rfl ?_
  refine W.nil ?_
  refine E.thenN ?_
  refine WC.seq ?_
  refine WC.region ?_
  refine W.ef rfl rfl rfl ?_
  refine Ef.buildSliceV (len := 3) [_, _, _] Try.underlying41 el3 rfl (by simp [Value.cells]) rfl (by decide) (by decide) ?_
  intro g1_0 w1_0 hg1_0 b1_0 h1_0
  have L1 := L0.trans h1_0
  have b1_0 : Blk w1_0 g1_0 3 (([100, 100, 50]).map iv).flatten.toArray := b1_0
  have o1_0 : OVec w1_0 w.heap.size 3 iv 1 (some ⟨g1_0, 0, none⟩) 3 3 ([100, 100, 50]) := b1_0.ovec hg1_0 iv_row rfl rfl (by decide)
  refine W.ef rfl rfl rfl ?_
  refine Ef.call go18 rfl rfl (new_led w1_0 o1_0.vec (by decide)) ?_
  rintro _ w1_1 ⟨gp1_1, F1_1, rfl, p1_1, h1_1⟩
  refine ⟨_, rfl, ?_⟩
  have L2 := L1.trans h1_1
  refine W.any (.assign rfl) rfl rfl rfl ?_
  refine W.nil ?_
  refine E.thenN ?_
  refine WC.seq ?_
  refine WC.seq ?_
  refine WC.region ?_
  refine W.any (.move rfl) rfl rfl rfl ?_
  refine W.any (.dec (.isNilP (by kernel_rfl) rfl) rfl) rfl rfl rfl ?_
  refine W.any (.move rfl) rfl rfl rfl ?_
  refine W.efg rfl rfl rfl (rfl) rfl rfl ?_
  refine Ef.call go18 rfl rfl (new_none w1_1 (Vec.nil _ _ _ _) (by decide)) ?_
  rintro _ w2_3 ⟨rfl, h2_3⟩
  refine ⟨_, rfl, ?_⟩
  have L3 := L2.trans h2_3
  refine W.rdg (Any.rd (.dec (.notNilP (by kernel_rfl) rfl) rfl) _) rfl rfl rfl (rfl) rfl rfl ?_
  refine W.any (.pickF rfl rfl rfl) rfl rfl rfl ?_
  refine W.any (.move rfl) rfl rfl rfl ?_
  refine W.efg rfl rfl rfl (rfl) rfl rfl ?_
  refine Ef.buildSliceV (len := 2) [_, _] Try.underlying41 el3 rfl (by simp [Value.cells]) rfl (by decide) (by decide) ?_
  intro g2_7 w2_7 hg2_7 b2_7 h2_7
  have L4 := L3.trans h2_7
  have b2_7 : Blk w2_7 g2_7 3 (([1125899906842624, 1]).map iv).flatten.toArray := b2_7
  have o2_7 : OVec w2_7 w2_3.heap.size 3 iv 1 (some ⟨g2_7, 0, none⟩) 2 2 ([1125899906842624, 1]) := b2_7.ovec hg2_7 iv_row rfl rfl (by decide)
  refine W.efg rfl rfl rfl (rfl) rfl rfl ?_
  refine Ef.call go18 rfl rfl (new_none w2_7 o2_7.vec (by decide)) ?_
  rintro _ w2_8 ⟨rfl, h2_8⟩
  refine ⟨_, rfl, ?_⟩
  have L5 := L4.trans h2_8
  refine W.rdg (Any.rd (.dec (.notNilP (by kernel_rfl) rfl) rfl) _) rfl rfl rfl (rfl) rfl rfl ?_
  refine W.any (.pickF rfl rfl rfl) rfl rfl rfl ?_
  refine W.any (.move rfl) rfl rfl rfl ?_
  refine W.efg rfl rfl rfl (rfl) rfl rfl ?_
  refine Ef.buildSliceV (len := 1) [_] Try.underlying41 el3 rfl (by simp [Value.cells]) rfl (by decide) (by decide) ?_
  intro g2_12 w2_12 hg2_12 b2_12 h2_12
  have L6 := L5.trans h2_12
  have b2_12 : Blk w2_12 g2_12 3 (([(-1)]).map iv).flatten.toArray := b2_12
  have o2_12 : OVec w2_12 w2_8.heap.size 3 iv 1 (some ⟨g2_12, 0, none⟩) 1 1 ([(-1)]) := b2_12.ovec hg2_12 iv_row rfl rfl (by decide)
  refine W.efg rfl rfl rfl (rfl) rfl rfl ?_
  refine Ef.call go18 rfl rfl (new_none w2_12 o2_12.vec (by decide)) ?_
  rintro _ w2_13 ⟨rfl, h2_13⟩
  refine ⟨_, rfl, ?_⟩
  have L7 := L6.trans h2_13
  refine W.rdg (Any.rd (.dec (.notNilP (by kernel_rfl) rfl) rfl) _) rfl rfl rfl (rfl) rfl rfl ?_
  refine W.any (.pickF rfl rfl rfl) rfl rfl rfl ?_
  refine W.nil ?_
  refine E.thenN ?_
  refine WC.condF rfl ?_
  refine WC.skip ?_
  refine E.thenN ?_
  refine WC.seq ?_
  refine WC.region ?_
  refine W.any (.move rfl) rfl rfl rfl ?_
  refine W.any (.buildA (cells := (pairV (⟨0, 1⟩ : Pair)).toArray) Try.underlying31 sz3 z31 rfl rfl) rfl rfl rfl ?_
  refine W.any (.buildA (cells := (pairV (⟨60, 0⟩ : Pair)).toArray) Try.underlying31 sz3 z31 rfl rfl) rfl rfl rfl ?_
  refine W.any (.buildP (seatV (⟨3, 0, 1, 60, 0⟩ : Seat)) pl33 z33 rfl rfl) rfl rfl rfl ?_
  have f8 := (p1_1.le (h2_3.trans (h2_7.trans (h2_8.trans (h2_12.trans h2_13)))))
  refine W.ef rfl rfl rfl ?_
  refine Ef.call go40 rfl rfl ((by have h := open_led (s := s0) (⟨3, 0, 1, 60, 0⟩ : Seat) 5 f8; rw [e1] at h; exact h)) ?_
  rintro _ w4_4 ⟨F4_4, rfl, p4_4, g4_4, h4_4⟩
  refine ⟨_, rfl, ?_⟩
  have L9 := L7.chP_then h4_4 (fun i hi => Nat.le_trans L1.size (f8.old hi))
  have f10 := (o1_0.le (h1_1.trans (h2_3.trans (h2_7.trans (h2_8.trans (h2_12.trans h2_13))))))
  have f11 := (o2_7.le (h2_8.trans (h2_12.trans h2_13)))
  have f12 := (o2_12.le h2_13)
  have zq13n := (show ∀ g, rowOf (some ⟨g1_0, 0, none⟩) 3 = some g → ¬ F1_1 g from (fun g hg hF => by have := f8.old hF;  have := (o1_0.row hg).2; omega))
  have zq13 := f10.chP h4_4 zq13n
  have zq13g : ∀ g, rowOf (some ⟨g1_0, 0, none⟩) 3 = some g → ¬ F4_4 g := fun g hg hF => (g4_4 _ hF).elim (zq13n g hg) (fun hz => by have := (f10.row hg).2; omega)
  have zq14n := (show ∀ g, rowOf (some ⟨g2_7, 0, none⟩) 2 = some g → ¬ F1_1 g from (fun g hg hF => by have := p1_1.lt hF; have := h2_3.size; have := (f11.row hg).1; omega))
  have zq14 := f11.chP h4_4 zq14n
  have zq14g : ∀ g, rowOf (some ⟨g2_7, 0, none⟩) 2 = some g → ¬ F4_4 g := fun g hg hF => (g4_4 _ hF).elim (zq14n g hg) (fun hz => by have := (f11.row hg).2; omega)
  have zq15n := (show ∀ g, rowOf (some ⟨g2_12, 0, none⟩) 1 = some g → ¬ F1_1 g from (fun g hg hF => by have := p1_1.lt hF; have := h2_3.size; have := h2_7.size; have := h2_8.size; have := (f12.row hg).1; omega))
  have zq15 := f12.chP h4_4 zq15n
  have zq15g : ∀ g, rowOf (some ⟨g2_12, 0, none⟩) 1 = some g → ¬ F4_4 g := fun g hg hF => (g4_4 _ hF).elim (zq15n g hg) (fun hz => by have := (f12.row hg).2; omega)
  refine W.any (.dec (.eql rfl rfl) (show _ = true from by decide)) rfl rfl rfl ?_
  refine W.any (.move rfl) rfl rfl rfl ?_
  refine W.rdg (Any.rd (.move rfl) _) rfl rfl rfl (rfl) rfl rfl ?_
  refine W.rdg (Any.rd (.buildA (cells := (pairV (⟨1, 2⟩ : Pair)).toArray) Try.underlying31 sz3 z31 rfl rfl) _) rfl rfl rfl (rfl) rfl rfl ?_
  refine W.rdg (Any.rd (.buildP (seatV (⟨3, 1, 2, 0, 0⟩ : Seat)) pl33 z33 rfl rfl) _) rfl rfl rfl (rfl) rfl rfl ?_
  refine W.efg rfl rfl rfl (rfl) rfl rfl ?_
  refine Ef.call go40 rfl rfl ((by have h := open_led (s := s1) (⟨3, 1, 2, 0, 0⟩ : Seat) 0 p4_4; rw [e2] at h; exact h)) ?_
  rintro _ w4_10 ⟨F4_10, rfl, p4_10, g4_10, h4_10⟩
  refine ⟨_, rfl, ?_⟩
  have L16 := L9.chP_then h4_10 (fun i hi => Nat.le_trans L1.size (p4_4.old hi))
  have zq17n := (show ∀ g, rowOf (some ⟨g1_0, 0, none⟩) 3 = some g → ¬ F4_4 g from zq13g)
  have zq17 := zq13.chP h4_10 zq17n
  have zq17g : ∀ g, rowOf (some ⟨g1_0, 0, none⟩) 3 = some g → ¬ F4_10 g := fun g hg hF => (g4_10 _ hF).elim (zq17n g hg) (fun hz => by have := (zq13.row hg).2; omega)
  have zq18n := (show ∀ g, rowOf (some ⟨g2_7, 0, none⟩) 2 = some g → ¬ F4_4 g from zq14g)
  have zq18 := zq14.chP h4_10 zq18n
  have zq18g : ∀ g, rowOf (some ⟨g2_7, 0, none⟩) 2 = some g → ¬ F4_10 g := fun g hg hF => (g4_10 _ hF).elim (zq18n g hg) (fun hz => by have := (zq14.row hg).2; omega)
  have zq19n := (show ∀ g, rowOf (some ⟨g2_12, 0, none⟩) 1 = some g → ¬ F4_4 g from zq15g)
  have zq19 := zq15.chP h4_10 zq19n
  have zq19g : ∀ g, rowOf (some ⟨g2_12, 0, none⟩) 1 = some g → ¬ F4_10 g := fun g hg hF => (g4_10 _ hF).elim (zq19n g hg) (fun hz => by have := (zq15.row hg).2; omega)
  refine W.rdg (Any.rd (.dec (.eql rfl rfl) (show _ = true from by decide)) _) rfl rfl rfl (rfl) rfl rfl ?_
  refine W.any (.pickT rfl rfl rfl) rfl rfl rfl ?_
  refine W.any (.move rfl) rfl rfl rfl ?_
  refine W.rdg (Any.rd (.move rfl) _) rfl rfl rfl (rfl) rfl rfl ?_
  refine W.rdg (Any.rd (.buildA (cells := (pairV (⟨0, 1⟩ : Pair)).toArray) Try.underlying31 sz3 z31 rfl rfl) _) rfl rfl rfl (rfl) rfl rfl ?_
  refine W.rdg (Any.rd (.buildA (cells := (pairV (⟨36, 0⟩ : Pair)).toArray) Try.underlying31 sz3 z31 rfl rfl) _) rfl rfl rfl (rfl) rfl rfl ?_
  refine W.rdg (Any.rd (.buildP (seatV (⟨4, 0, 1, 36, 0⟩ : Seat)) pl33 z33 rfl rfl) _) rfl rfl rfl (rfl) rfl rfl ?_
  refine W.efg rfl rfl rfl (rfl) rfl rfl ?_
  refine Ef.call go40 rfl rfl ((by have h := open_led (s := s1) (⟨4, 0, 1, 36, 0⟩ : Seat) 0 p4_10; rw [e3] at h; exact h)) ?_
  rintro _ w4_18 ⟨F4_18, rfl, p4_18, g4_18, h4_18⟩
  refine ⟨_, rfl, ?_⟩
  have L20 := L16.chP_then h4_18 (fun i hi => Nat.le_trans L1.size (p4_10.old hi))
  have zq21n := (show ∀ g, rowOf (some ⟨g1_0, 0, none⟩) 3 = some g → ¬ F4_10 g from zq17g)
  have zq21 := zq17.chP h4_18 zq21n
  have zq21g : ∀ g, rowOf (some ⟨g1_0, 0, none⟩) 3 = some g → ¬ F4_18 g := fun g hg hF => (g4_18 _ hF).elim (zq21n g hg) (fun hz => by have := (zq17.row hg).2; omega)
  have zq22n := (show ∀ g, rowOf (some ⟨g2_7, 0, none⟩) 2 = some g → ¬ F4_10 g from zq18g)
  have zq22 := zq18.chP h4_18 zq22n
  have zq22g : ∀ g, rowOf (some ⟨g2_7, 0, none⟩) 2 = some g → ¬ F4_18 g := fun g hg hF => (g4_18 _ hF).elim (zq22n g hg) (fun hz => by have := (zq18.row hg).2; omega)
  have zq23n := (show ∀ g, rowOf (some ⟨g2_12, 0, none⟩) 1 = some g → ¬ F4_10 g from zq19g)
  have zq23 := zq19.chP h4_18 zq23n
  have zq23g : ∀ g, rowOf (some ⟨g2_12, 0, none⟩) 1 = some g → ¬ F4_18 g := fun g hg hF => (g4_18 _ hF).elim (zq23n g hg) (fun hz => by have := (zq19.row hg).2; omega)
  refine W.rdg (Any.rd (.dec (.eql rfl rfl) (show _ = true from by decide)) _) rfl rfl rfl (rfl) rfl rfl ?_
  refine W.any (.pickT rfl rfl rfl) rfl rfl rfl ?_
  refine W.any (.move rfl) rfl rfl rfl ?_
  refine W.rdg (Any.rd (.move rfl) _) rfl rfl rfl (rfl) rfl rfl ?_
  refine W.efg rfl rfl rfl (rfl) rfl rfl ?_
  refine Ef.call go16 rfl rfl ((by have h := own_led (s := s1) 0 p4_18; rw [e4] at h; exact h)) ?_
  rintro _ w4_23 ⟨rfl, h4_23⟩
  refine ⟨_, rfl, ?_⟩
  have L24 := L20.trans h4_23
  refine W.rdg (Any.rd (.dec (.eql rfl rfl) (show _ = true from by decide)) _) rfl rfl rfl (rfl) rfl rfl ?_
  refine W.any (.pickT rfl rfl rfl) rfl rfl rfl ?_
  refine W.any (.move rfl) rfl rfl rfl ?_
  refine W.rdg (Any.rd (.move rfl) _) rfl rfl rfl (rfl) rfl rfl ?_
  have f25 := (p4_18.le h4_23)
  refine W.efg rfl rfl rfl (rfl) rfl rfl ?_
  refine Ef.call go15 rfl rfl ((by have h := worth_led (s := s1) 0 f25; rw [e5] at h; exact h)) ?_
  rintro _ w4_28 ⟨rfl, h4_28⟩
  refine ⟨_, rfl, ?_⟩
  have L26 := L24.trans h4_28
  refine W.rdg (Any.rd (.dec (.eql rfl rfl) (show _ = true from by decide)) _) rfl rfl rfl (rfl) rfl rfl ?_
  refine W.any (.pickT rfl rfl rfl) rfl rfl rfl ?_
  refine W.any (.assign rfl) rfl rfl rfl ?_
  refine W.nil ?_
  refine E.thenN ?_
  refine WC.seq ?_
  refine WC.region ?_
  refine W.any (.move rfl) rfl rfl rfl ?_
  have f27 := (f25.le h4_28)
  refine W.ef rfl rfl rfl ?_
  refine Ef.call go24 rfl rfl ((by have h := offer_led (s := s1) 3 0 1 40 16 (by omega) f27; rw [e6] at h; exact h)) ?_
  rintro _ w5_1 ⟨F5_1, rfl, p5_1, g5_1, h5_1⟩
  refine ⟨_, rfl, ?_⟩
  have L28 := L26.chP_then h5_1 (fun i hi => Nat.le_trans L1.size (f27.old hi))
  have f29 := (zq21.le (h4_23.trans h4_28))
  have f30 := (zq22.le (h4_23.trans h4_28))
  have f31 := (zq23.le (h4_23.trans h4_28))
  have zq32n := (show ∀ g, rowOf (some ⟨g1_0, 0, none⟩) 3 = some g → ¬ F4_18 g from zq21g)
  have zq32 := f29.chP h5_1 zq32n
  have zq32g : ∀ g, rowOf (some ⟨g1_0, 0, none⟩) 3 = some g → ¬ F5_1 g := fun g hg hF => (g5_1 _ hF).elim (zq32n g hg) (fun hz => by have := (f29.row hg).2; omega)
  have zq33n := (show ∀ g, rowOf (some ⟨g2_7, 0, none⟩) 2 = some g → ¬ F4_18 g from zq22g)
  have zq33 := f30.chP h5_1 zq33n
  have zq33g : ∀ g, rowOf (some ⟨g2_7, 0, none⟩) 2 = some g → ¬ F5_1 g := fun g hg hF => (g5_1 _ hF).elim (zq33n g hg) (fun hz => by have := (f30.row hg).2; omega)
  have zq34n := (show ∀ g, rowOf (some ⟨g2_12, 0, none⟩) 1 = some g → ¬ F4_18 g from zq23g)
  have zq34 := f31.chP h5_1 zq34n
  have zq34g : ∀ g, rowOf (some ⟨g2_12, 0, none⟩) 1 = some g → ¬ F5_1 g := fun g hg hF => (g5_1 _ hF).elim (zq34n g hg) (fun hz => by have := (f31.row hg).2; omega)
  refine W.any (.dec (.eql rfl rfl) (show _ = true from by decide)) rfl rfl rfl ?_
  refine W.any (.move rfl) rfl rfl rfl ?_
  refine W.rdg (Any.rd (.move rfl) _) rfl rfl rfl (rfl) rfl rfl ?_
  refine W.efg rfl rfl rfl (rfl) rfl rfl ?_
  refine Ef.call go26 rfl rfl ((by have h := held_led (s := s6) 3 0 p5_1; rw [e7] at h; exact h)) ?_
  rintro _ w5_5 ⟨rfl, h5_5⟩
  refine ⟨_, rfl, ?_⟩
  have L35 := L28.trans h5_5
  refine W.rdg (Any.rd (.dec (.eql rfl rfl) (show _ = true from by decide)) _) rfl rfl rfl (rfl) rfl rfl ?_
  refine W.any (.pickT rfl rfl rfl) rfl rfl rfl ?_
  refine W.any (.move rfl) rfl rfl rfl ?_
  refine W.rdg (Any.rd (.move rfl) _) rfl rfl rfl (rfl) rfl rfl ?_
  have f36 := (p5_1.le h5_5)
  refine W.efg rfl rfl rfl (rfl) rfl rfl ?_
  refine Ef.call go15 rfl rfl ((by have h := worth_led (s := s6) 0 f36; rw [e8] at h; exact h)) ?_
  rintro _ w5_10 ⟨rfl, h5_10⟩
  refine ⟨_, rfl, ?_⟩
  have L37 := L35.trans h5_10
  refine W.rdg (Any.rd (.dec (.eql rfl rfl) (show _ = true from by decide)) _) rfl rfl rfl (rfl) rfl rfl ?_
  refine W.any (.pickT rfl rfl rfl) rfl rfl rfl ?_
  refine W.any (.move rfl) rfl rfl rfl ?_
  refine W.rdg (Any.rd (.move rfl) _) rfl rfl rfl (rfl) rfl rfl ?_
  refine W.rdg (Any.rd (.buildA (cells := (pairV (⟨0, 0⟩ : Pair)).toArray) Try.underlying31 sz3 z31 rfl rfl) _) rfl rfl rfl (rfl) rfl rfl ?_
  have f38 := (f36.le h5_10)
  refine W.efg rfl rfl rfl (rfl) rfl rfl ?_
  refine Ef.call go42 rfl rfl ((by have h := close_led (s := s6) 3 (⟨0, 0⟩ : Pair) f38; rw [e9] at h; exact h)) ?_
  rintro _ w5_16 ⟨F5_16, rfl, p5_16, g5_16, h5_16⟩
  refine ⟨_, rfl, ?_⟩
  have L39 := L37.chP_then h5_16 (fun i hi => Nat.le_trans L1.size (f38.old hi))
  have f40 := (zq32.le (h5_5.trans h5_10))
  have f41 := (zq33.le (h5_5.trans h5_10))
  have f42 := (zq34.le (h5_5.trans h5_10))
  have zq43n := (show ∀ g, rowOf (some ⟨g1_0, 0, none⟩) 3 = some g → ¬ F5_1 g from zq32g)
  have zq43 := f40.chP h5_16 zq43n
  have zq43g : ∀ g, rowOf (some ⟨g1_0, 0, none⟩) 3 = some g → ¬ F5_16 g := fun g hg hF => (g5_16 _ hF).elim (zq43n g hg) (fun hz => by have := (f40.row hg).2; omega)
  have zq44n := (show ∀ g, rowOf (some ⟨g2_7, 0, none⟩) 2 = some g → ¬ F5_1 g from zq33g)
  have zq44 := f41.chP h5_16 zq44n
  have zq44g : ∀ g, rowOf (some ⟨g2_7, 0, none⟩) 2 = some g → ¬ F5_16 g := fun g hg hF => (g5_16 _ hF).elim (zq44n g hg) (fun hz => by have := (f41.row hg).2; omega)
  have zq45n := (show ∀ g, rowOf (some ⟨g2_12, 0, none⟩) 1 = some g → ¬ F5_1 g from zq34g)
  have zq45 := f42.chP h5_16 zq45n
  have zq45g : ∀ g, rowOf (some ⟨g2_12, 0, none⟩) 1 = some g → ¬ F5_16 g := fun g hg hF => (g5_16 _ hF).elim (zq45n g hg) (fun hz => by have := (f42.row hg).2; omega)
  refine W.rdg (Any.rd (.dec (.eql rfl rfl) (show _ = true from by decide)) _) rfl rfl rfl (rfl) rfl rfl ?_
  refine W.any (.pickT rfl rfl rfl) rfl rfl rfl ?_
  refine W.any (.move rfl) rfl rfl rfl ?_
  refine W.rdg (Any.rd (.move rfl) _) rfl rfl rfl (rfl) rfl rfl ?_
  refine W.efg rfl rfl rfl (rfl) rfl rfl ?_
  refine Ef.call go27 rfl rfl ((by have h := settle_led (s := s6) 3 0 1 3 p5_16; rw [e10] at h; exact h)) ?_
  rintro _ w5_21 ⟨F5_21, rfl, p5_21, g5_21, h5_21⟩
  refine ⟨_, rfl, ?_⟩
  have L46 := L39.chP_then h5_21 (fun i hi => Nat.le_trans L1.size (p5_16.old hi))
  have zq47n := (show ∀ g, rowOf (some ⟨g1_0, 0, none⟩) 3 = some g → ¬ F5_16 g from zq43g)
  have zq47 := zq43.chP h5_21 zq47n
  have zq47g : ∀ g, rowOf (some ⟨g1_0, 0, none⟩) 3 = some g → ¬ F5_21 g := fun g hg hF => (g5_21 _ hF).elim (zq47n g hg) (fun hz => by have := (zq43.row hg).2; omega)
  have zq48n := (show ∀ g, rowOf (some ⟨g2_7, 0, none⟩) 2 = some g → ¬ F5_16 g from zq44g)
  have zq48 := zq44.chP h5_21 zq48n
  have zq48g : ∀ g, rowOf (some ⟨g2_7, 0, none⟩) 2 = some g → ¬ F5_21 g := fun g hg hF => (g5_21 _ hF).elim (zq48n g hg) (fun hz => by have := (zq44.row hg).2; omega)
  have zq49n := (show ∀ g, rowOf (some ⟨g2_12, 0, none⟩) 1 = some g → ¬ F5_16 g from zq45g)
  have zq49 := zq45.chP h5_21 zq49n
  have zq49g : ∀ g, rowOf (some ⟨g2_12, 0, none⟩) 1 = some g → ¬ F5_21 g := fun g hg hF => (g5_21 _ hF).elim (zq49n g hg) (fun hz => by have := (zq45.row hg).2; omega)
  refine W.rdg (Any.rd (.dec (.eql rfl rfl) (show _ = true from by decide)) _) rfl rfl rfl (rfl) rfl rfl ?_
  refine W.any (.pickT rfl rfl rfl) rfl rfl rfl ?_
  refine W.any (.move rfl) rfl rfl rfl ?_
  refine W.rdg (Any.rd (.move rfl) _) rfl rfl rfl (rfl) rfl rfl ?_
  refine W.efg rfl rfl rfl (rfl) rfl rfl ?_
  refine Ef.call go27 rfl rfl ((by have h := settle_led (s := s6) 3 0 1 2 p5_21; rw [e11] at h; exact h)) ?_
  rintro _ w5_26 ⟨F5_26, rfl, p5_26, g5_26, h5_26⟩
  refine ⟨_, rfl, ?_⟩
  have L50 := L46.chP_then h5_26 (fun i hi => Nat.le_trans L1.size (p5_21.old hi))
  have zq51n := (show ∀ g, rowOf (some ⟨g1_0, 0, none⟩) 3 = some g → ¬ F5_21 g from zq47g)
  have zq51 := zq47.chP h5_26 zq51n
  have zq51g : ∀ g, rowOf (some ⟨g1_0, 0, none⟩) 3 = some g → ¬ F5_26 g := fun g hg hF => (g5_26 _ hF).elim (zq51n g hg) (fun hz => by have := (zq47.row hg).2; omega)
  have zq52n := (show ∀ g, rowOf (some ⟨g2_7, 0, none⟩) 2 = some g → ¬ F5_21 g from zq48g)
  have zq52 := zq48.chP h5_26 zq52n
  have zq52g : ∀ g, rowOf (some ⟨g2_7, 0, none⟩) 2 = some g → ¬ F5_26 g := fun g hg hF => (g5_26 _ hF).elim (zq52n g hg) (fun hz => by have := (zq48.row hg).2; omega)
  have zq53n := (show ∀ g, rowOf (some ⟨g2_12, 0, none⟩) 1 = some g → ¬ F5_21 g from zq49g)
  have zq53 := zq49.chP h5_26 zq53n
  have zq53g : ∀ g, rowOf (some ⟨g2_12, 0, none⟩) 1 = some g → ¬ F5_26 g := fun g hg hF => (g5_26 _ hF).elim (zq53n g hg) (fun hz => by have := (zq49.row hg).2; omega)
  refine W.rdg (Any.rd (.dec (.eql rfl rfl) (show _ = true from by decide)) _) rfl rfl rfl (rfl) rfl rfl ?_
  refine W.any (.pickT rfl rfl rfl) rfl rfl rfl ?_
  refine W.any (.move rfl) rfl rfl rfl ?_
  refine W.rdg (Any.rd (.move rfl) _) rfl rfl rfl (rfl) rfl rfl ?_
  refine W.efg rfl rfl rfl (rfl) rfl rfl ?_
  refine Ef.call go15 rfl rfl ((by have h := worth_led (s := s11) 1 p5_26; rw [e12] at h; exact h)) ?_
  rintro _ w5_31 ⟨rfl, h5_31⟩
  refine ⟨_, rfl, ?_⟩
  have L54 := L50.trans h5_31
  refine W.rdg (Any.rd (.dec (.eql rfl rfl) (show _ = true from by decide)) _) rfl rfl rfl (rfl) rfl rfl ?_
  refine W.any (.pickT rfl rfl rfl) rfl rfl rfl ?_
  refine W.any (.move rfl) rfl rfl rfl ?_
  refine W.rdg (Any.rd (.move rfl) _) rfl rfl rfl (rfl) rfl rfl ?_
  have f55 := (p5_26.le h5_31)
  refine W.efg rfl rfl rfl (rfl) rfl rfl ?_
  refine Ef.call go28 rfl rfl ((by have h := fail_led (s := s11) 3 0 1 f55; rw [e13] at h; exact h)) ?_
  rintro _ w5_36 ⟨F5_36, rfl, p5_36, g5_36, h5_36⟩
  refine ⟨_, rfl, ?_⟩
  have L56 := L54.chP_then h5_36 (fun i hi => Nat.le_trans L1.size (f55.old hi))
  have f57 := (zq51.le h5_31)
  have f58 := (zq52.le h5_31)
  have f59 := (zq53.le h5_31)
  have zq60n := (show ∀ g, rowOf (some ⟨g1_0, 0, none⟩) 3 = some g → ¬ F5_26 g from zq51g)
  have zq60 := f57.chP h5_36 zq60n
  have zq60g : ∀ g, rowOf (some ⟨g1_0, 0, none⟩) 3 = some g → ¬ F5_36 g := fun g hg hF => (g5_36 _ hF).elim (zq60n g hg) (fun hz => by have := (f57.row hg).2; omega)
  have zq61n := (show ∀ g, rowOf (some ⟨g2_7, 0, none⟩) 2 = some g → ¬ F5_26 g from zq52g)
  have zq61 := f58.chP h5_36 zq61n
  have zq61g : ∀ g, rowOf (some ⟨g2_7, 0, none⟩) 2 = some g → ¬ F5_36 g := fun g hg hF => (g5_36 _ hF).elim (zq61n g hg) (fun hz => by have := (f58.row hg).2; omega)
  have zq62n := (show ∀ g, rowOf (some ⟨g2_12, 0, none⟩) 1 = some g → ¬ F5_26 g from zq53g)
  have zq62 := f59.chP h5_36 zq62n
  have zq62g : ∀ g, rowOf (some ⟨g2_12, 0, none⟩) 1 = some g → ¬ F5_36 g := fun g hg hF => (g5_36 _ hF).elim (zq62n g hg) (fun hz => by have := (f59.row hg).2; omega)
  refine W.rdg (Any.rd (.dec (.eql rfl rfl) (show _ = true from by decide)) _) rfl rfl rfl (rfl) rfl rfl ?_
  refine W.any (.pickT rfl rfl rfl) rfl rfl rfl ?_
  refine W.any (.assign rfl) rfl rfl rfl ?_
  refine W.nil ?_
  refine E.thenN ?_
  refine WC.seq ?_
  refine WC.region ?_
  refine W.any (.move rfl) rfl rfl rfl ?_
  refine W.any (.buildA (cells := (pairV (⟨1, 2⟩ : Pair)).toArray) Try.underlying31 sz3 z31 rfl rfl) rfl rfl rfl ?_
  refine W.any (.buildA (cells := (pairV (⟨30, 10⟩ : Pair)).toArray) Try.underlying31 sz3 z31 rfl rfl) rfl rfl rfl ?_
  refine W.any (.buildP (seatV (⟨7, 1, 2, 30, 10⟩ : Seat)) pl33 z33 rfl rfl) rfl rfl rfl ?_
  refine W.ef rfl rfl rfl ?_
  refine Ef.call go40 rfl rfl ((by have h := open_led (s := s11) (⟨7, 1, 2, 30, 10⟩ : Seat) 0 p5_36; rw [e14] at h; exact h)) ?_
  rintro _ w6_4 ⟨F6_4, rfl, p6_4, g6_4, h6_4⟩
  refine ⟨_, rfl, ?_⟩
  have L63 := L56.chP_then h6_4 (fun i hi => Nat.le_trans L1.size (p5_36.old hi))
  have zq64n := (show ∀ g, rowOf (some ⟨g1_0, 0, none⟩) 3 = some g → ¬ F5_36 g from zq60g)
  have zq64 := zq60.chP h6_4 zq64n
  have zq64g : ∀ g, rowOf (some ⟨g1_0, 0, none⟩) 3 = some g → ¬ F6_4 g := fun g hg hF => (g6_4 _ hF).elim (zq64n g hg) (fun hz => by have := (zq60.row hg).2; omega)
  have zq65n := (show ∀ g, rowOf (some ⟨g2_7, 0, none⟩) 2 = some g → ¬ F5_36 g from zq61g)
  have zq65 := zq61.chP h6_4 zq65n
  have zq65g : ∀ g, rowOf (some ⟨g2_7, 0, none⟩) 2 = some g → ¬ F6_4 g := fun g hg hF => (g6_4 _ hF).elim (zq65n g hg) (fun hz => by have := (zq61.row hg).2; omega)
  have zq66n := (show ∀ g, rowOf (some ⟨g2_12, 0, none⟩) 1 = some g → ¬ F5_36 g from zq62g)
  have zq66 := zq62.chP h6_4 zq66n
  have zq66g : ∀ g, rowOf (some ⟨g2_12, 0, none⟩) 1 = some g → ¬ F6_4 g := fun g hg hF => (g6_4 _ hF).elim (zq66n g hg) (fun hz => by have := (zq62.row hg).2; omega)
  refine W.any (.dec (.eql rfl rfl) (show _ = true from by decide)) rfl rfl rfl ?_
  refine W.any (.move rfl) rfl rfl rfl ?_
  refine W.rdg (Any.rd (.move rfl) _) rfl rfl rfl (rfl) rfl rfl ?_
  refine W.rdg (Any.rd (.buildP (legV (⟨3, 0, 12⟩ : Leg)) pl37 z37 rfl rfl) _) rfl rfl rfl (rfl) rfl rfl ?_
  refine W.rdg (Any.rd (.buildP (legV (⟨7, 0, 11⟩ : Leg)) pl37 z37 rfl rfl) _) rfl rfl rfl (rfl) rfl rfl ?_
  refine W.efg rfl rfl rfl (rfl) rfl rfl ?_
  refine Ef.buildSliceV (len := 2) [_, _] Try.underlying24 el37 rfl (by simp [Value.cells, legV_row.len]) rfl (by decide) (by decide) ?_
  intro g6_10 w6_10 hg6_10 b6_10 h6_10
  have L67 := L63.trans h6_10
  have b6_10 : Blk w6_10 g6_10 37 (([(⟨3, 0, 12⟩ : Leg), (⟨7, 0, 11⟩ : Leg)]).map legV).flatten.toArray := b6_10
  have o6_10 : OVec w6_10 w6_4.heap.size 37 legV 3 (some ⟨g6_10, 0, none⟩) 2 2 ([(⟨3, 0, 12⟩ : Leg), (⟨7, 0, 11⟩ : Leg)]) := b6_10.ovec hg6_10 legV_row rfl rfl (by decide)
  have f68 := (p6_4.le h6_10)
  refine W.efg rfl rfl rfl (rfl) rfl rfl ?_
  refine Ef.call go13 rfl rfl ((by have h := pay_led (s := s14) (cg := 2) f68 o6_10.vec (by omega) (fun q h0 h1 h2 => (show ∀ g, rowOf (some ⟨g6_10, 0, none⟩) 2 = some g → ¬ F6_4 g from (fun g hg hF => by have := p6_4.lt hF;  have := (o6_10.row hg).1; omega)) q (rowOf_of h0 (by have := o6_10.cap; omega))); rw [e15] at h; exact h)) ?_
  rintro _ w6_11 ⟨F6_11, rfl, p6_11, g6_11, h6_11⟩
  refine ⟨_, rfl, ?_⟩
  have L69 := L67.chP_then h6_11 (fun i hi => Nat.le_trans L1.size (f68.old hi))
  have f70 := (zq64.le h6_10)
  have f71 := (zq65.le h6_10)
  have f72 := (zq66.le h6_10)
  have zq73n := (show ∀ g, rowOf (some ⟨g1_0, 0, none⟩) 3 = some g → ¬ F6_4 g from zq64g)
  have zq73 := f70.chP h6_11 zq73n
  have zq73g : ∀ g, rowOf (some ⟨g1_0, 0, none⟩) 3 = some g → ¬ F6_11 g := fun g hg hF => (g6_11 _ hF).elim (zq73n g hg) (fun hz => by have := (f70.row hg).2; omega)
  have zq74n := (show ∀ g, rowOf (some ⟨g2_7, 0, none⟩) 2 = some g → ¬ F6_4 g from zq65g)
  have zq74 := f71.chP h6_11 zq74n
  have zq74g : ∀ g, rowOf (some ⟨g2_7, 0, none⟩) 2 = some g → ¬ F6_11 g := fun g hg hF => (g6_11 _ hF).elim (zq74n g hg) (fun hz => by have := (f71.row hg).2; omega)
  have zq75n := (show ∀ g, rowOf (some ⟨g2_12, 0, none⟩) 1 = some g → ¬ F6_4 g from zq66g)
  have zq75 := f72.chP h6_11 zq75n
  have zq75g : ∀ g, rowOf (some ⟨g2_12, 0, none⟩) 1 = some g → ¬ F6_11 g := fun g hg hF => (g6_11 _ hF).elim (zq75n g hg) (fun hz => by have := (f72.row hg).2; omega)
  have zq76n := (show ∀ g, rowOf (some ⟨g6_10, 0, none⟩) 2 = some g → ¬ F6_4 g from (fun g hg hF => by have := p6_4.lt hF;  have := (o6_10.row hg).1; omega))
  have zq76 := o6_10.chP h6_11 zq76n
  have zq76g : ∀ g, rowOf (some ⟨g6_10, 0, none⟩) 2 = some g → ¬ F6_11 g := fun g hg hF => (g6_11 _ hF).elim (zq76n g hg) (fun hz => by have := (o6_10.row hg).2; omega)
  refine W.rdg (Any.rd (.dec (.eql rfl rfl) (show _ = true from by decide)) _) rfl rfl rfl (rfl) rfl rfl ?_
  refine W.any (.pickT rfl rfl rfl) rfl rfl rfl ?_
  refine W.any (.move rfl) rfl rfl rfl ?_
  refine W.rdg (Any.rd (.move rfl) _) rfl rfl rfl (rfl) rfl rfl ?_
  refine W.efg rfl rfl rfl (rfl) rfl rfl ?_
  refine Ef.call go15 rfl rfl ((by have h := worth_led (s := s15) 2 p6_11; rw [e16] at h; exact h)) ?_
  rintro _ w6_16 ⟨rfl, h6_16⟩
  refine ⟨_, rfl, ?_⟩
  have L77 := L69.trans h6_16
  refine W.rdg (Any.rd (.dec (.eql rfl rfl) (show _ = true from by decide)) _) rfl rfl rfl (rfl) rfl rfl ?_
  refine W.any (.pickT rfl rfl rfl) rfl rfl rfl ?_
  refine W.any (.move rfl) rfl rfl rfl ?_
  refine W.rdg (Any.rd (.move rfl) _) rfl rfl rfl (rfl) rfl rfl ?_
  refine W.rdg (Any.rd (.buildP (legV (⟨3, 0, 1⟩ : Leg)) pl37 z37 rfl rfl) _) rfl rfl rfl (rfl) rfl rfl ?_
  refine W.rdg (Any.rd (.buildP (legV (⟨7, 0, 99⟩ : Leg)) pl37 z37 rfl rfl) _) rfl rfl rfl (rfl) rfl rfl ?_
  refine W.efg rfl rfl rfl (rfl) rfl rfl ?_
  refine Ef.buildSliceV (len := 2) [_, _] Try.underlying24 el37 rfl (by simp [Value.cells, legV_row.len]) rfl (by decide) (by decide) ?_
  intro g6_23 w6_23 hg6_23 b6_23 h6_23
  have L78 := L77.trans h6_23
  have b6_23 : Blk w6_23 g6_23 37 (([(⟨3, 0, 1⟩ : Leg), (⟨7, 0, 99⟩ : Leg)]).map legV).flatten.toArray := b6_23
  have o6_23 : OVec w6_23 w6_16.heap.size 37 legV 3 (some ⟨g6_23, 0, none⟩) 2 2 ([(⟨3, 0, 1⟩ : Leg), (⟨7, 0, 99⟩ : Leg)]) := b6_23.ovec hg6_23 legV_row rfl rfl (by decide)
  have f79 := (p6_11.le (h6_16.trans h6_23))
  refine W.efg rfl rfl rfl (rfl) rfl rfl ?_
  refine Ef.call go13 rfl rfl ((by have h := pay_led (s := s15) (cg := 2) f79 o6_23.vec (by omega) (fun q h0 h1 h2 => (show ∀ g, rowOf (some ⟨g6_23, 0, none⟩) 2 = some g → ¬ F6_11 g from (fun g hg hF => by have := p6_11.lt hF; have := h6_16.size; have := (o6_23.row hg).1; omega)) q (rowOf_of h0 (by have := o6_23.cap; omega))); rw [e17] at h; exact h)) ?_
  rintro _ w6_24 ⟨F6_24, rfl, p6_24, g6_24, h6_24⟩
  refine ⟨_, rfl, ?_⟩
  have L80 := L78.chP_then h6_24 (fun i hi => Nat.le_trans L1.size (f79.old hi))
  have f81 := (zq73.le (h6_16.trans h6_23))
  have f82 := (zq74.le (h6_16.trans h6_23))
  have f83 := (zq75.le (h6_16.trans h6_23))
  have f84 := (zq76.le (h6_16.trans h6_23))
  have zq85n := (show ∀ g, rowOf (some ⟨g1_0, 0, none⟩) 3 = some g → ¬ F6_11 g from zq73g)
  have zq85 := f81.chP h6_24 zq85n
  have zq85g : ∀ g, rowOf (some ⟨g1_0, 0, none⟩) 3 = some g → ¬ F6_24 g := fun g hg hF => (g6_24 _ hF).elim (zq85n g hg) (fun hz => by have := (f81.row hg).2; omega)
  have zq86n := (show ∀ g, rowOf (some ⟨g2_7, 0, none⟩) 2 = some g → ¬ F6_11 g from zq74g)
  have zq86 := f82.chP h6_24 zq86n
  have zq86g : ∀ g, rowOf (some ⟨g2_7, 0, none⟩) 2 = some g → ¬ F6_24 g := fun g hg hF => (g6_24 _ hF).elim (zq86n g hg) (fun hz => by have := (f82.row hg).2; omega)
  have zq87n := (show ∀ g, rowOf (some ⟨g2_12, 0, none⟩) 1 = some g → ¬ F6_11 g from zq75g)
  have zq87 := f83.chP h6_24 zq87n
  have zq87g : ∀ g, rowOf (some ⟨g2_12, 0, none⟩) 1 = some g → ¬ F6_24 g := fun g hg hF => (g6_24 _ hF).elim (zq87n g hg) (fun hz => by have := (f83.row hg).2; omega)
  have zq88n := (show ∀ g, rowOf (some ⟨g6_10, 0, none⟩) 2 = some g → ¬ F6_11 g from zq76g)
  have zq88 := f84.chP h6_24 zq88n
  have zq88g : ∀ g, rowOf (some ⟨g6_10, 0, none⟩) 2 = some g → ¬ F6_24 g := fun g hg hF => (g6_24 _ hF).elim (zq88n g hg) (fun hz => by have := (f84.row hg).2; omega)
  have zq89n := (show ∀ g, rowOf (some ⟨g6_23, 0, none⟩) 2 = some g → ¬ F6_11 g from (fun g hg hF => by have := p6_11.lt hF; have := h6_16.size; have := (o6_23.row hg).1; omega))
  have zq89 := o6_23.chP h6_24 zq89n
  have zq89g : ∀ g, rowOf (some ⟨g6_23, 0, none⟩) 2 = some g → ¬ F6_24 g := fun g hg hF => (g6_24 _ hF).elim (zq89n g hg) (fun hz => by have := (o6_23.row hg).2; omega)
  refine W.rdg (Any.rd (.dec (.eql rfl rfl) (show _ = true from by decide)) _) rfl rfl rfl (rfl) rfl rfl ?_
  refine W.any (.pickT rfl rfl rfl) rfl rfl rfl ?_
  refine W.any (.move rfl) rfl rfl rfl ?_
  refine W.rdg (Any.rd (.move rfl) _) rfl rfl rfl (rfl) rfl rfl ?_
  refine W.efg rfl rfl rfl (rfl) rfl rfl ?_
  refine Ef.call go15 rfl rfl ((by have h := worth_led (s := s15) 0 p6_24; rw [e18] at h; exact h)) ?_
  rintro _ w6_29 ⟨rfl, h6_29⟩
  refine ⟨_, rfl, ?_⟩
  have L90 := L80.trans h6_29
  refine W.rdg (Any.rd (.dec (.eql rfl rfl) (show _ = true from by decide)) _) rfl rfl rfl (rfl) rfl rfl ?_
  refine W.any (.pickT rfl rfl rfl) rfl rfl rfl ?_
  refine W.any (.assign rfl) rfl rfl rfl ?_
  refine W.nil ?_
  refine E.thenN ?_
  refine WC.seq ?_
  refine WC.region ?_
  refine W.any (.move rfl) rfl rfl rfl ?_
  refine W.ef rfl rfl rfl ?_
  refine Ef.buildSliceV (len := 2) [_, _] Try.underlying41 el3 rfl (by simp [Value.cells]) rfl (by decide) (by decide) ?_
  intro g7_1 w7_1 hg7_1 b7_1 h7_1
  have L91 := L90.trans h7_1
  have b7_1 : Blk w7_1 g7_1 3 (([3, 7]).map iv).flatten.toArray := b7_1
  have o7_1 : OVec w7_1 w6_29.heap.size 3 iv 1 (some ⟨g7_1, 0, none⟩) 2 2 ([3, 7]) := b7_1.ovec hg7_1 iv_row rfl rfl (by decide)
  refine W.any (.buildA (cells := (pairV (⟨0, 2⟩ : Pair)).toArray) Try.underlying31 sz3 z31 rfl rfl) rfl rfl rfl ?_
  refine W.any (.buildA (cells := (pairV (⟨8, 21⟩ : Pair)).toArray) Try.underlying31 sz3 z31 rfl rfl) rfl rfl rfl ?_
  refine W.any (.buildP (seatV (⟨3, 0, 2, 8, 21⟩ : Seat)) pl33 z33 rfl rfl) rfl rfl rfl ?_
  refine W.any (.buildA (cells := (pairV (⟨1, 0⟩ : Pair)).toArray) Try.underlying31 sz3 z31 rfl rfl) rfl rfl rfl ?_
  refine W.any (.buildA (cells := (pairV (⟨70, 0⟩ : Pair)).toArray) Try.underlying31 sz3 z31 rfl rfl) rfl rfl rfl ?_
  refine W.any (.buildP (seatV (⟨9, 1, 0, 70, 0⟩ : Seat)) pl33 z33 rfl rfl) rfl rfl rfl ?_
  refine W.ef rfl rfl rfl ?_
  refine Ef.buildSliceV (len := 2) [_, _] Try.underlying50 el33 rfl (by simp [Value.cells, seatV_row.len]) rfl (by decide) (by decide) ?_
  intro g7_8 w7_8 hg7_8 b7_8 h7_8
  have L92 := L91.trans h7_8
  have b7_8 : Blk w7_8 g7_8 33 (([(⟨3, 0, 2, 8, 21⟩ : Seat), (⟨9, 1, 0, 70, 0⟩ : Seat)]).map seatV).flatten.toArray := b7_8
  have o7_8 : OVec w7_8 w7_1.heap.size 33 seatV 5 (some ⟨g7_8, 0, none⟩) 2 2 ([(⟨3, 0, 2, 8, 21⟩ : Seat), (⟨9, 1, 0, 70, 0⟩ : Seat)]) := b7_8.ovec hg7_8 seatV_row rfl rfl (by decide)
  refine W.ef rfl rfl rfl ?_
  refine Ef.buildSliceV (len := 3) [_, _, _] Try.underlying41 el3 rfl (by simp [Value.cells]) rfl (by decide) (by decide) ?_
  intro g7_9 w7_9 hg7_9 b7_9 h7_9
  have L93 := L92.trans h7_9
  have b7_9 : Blk w7_9 g7_9 3 (([0, 1, 0]).map iv).flatten.toArray := b7_9
  have o7_9 : OVec w7_9 w7_8.heap.size 3 iv 1 (some ⟨g7_9, 0, none⟩) 3 3 ([0, 1, 0]) := b7_9.ovec hg7_9 iv_row rfl rfl (by decide)
  have f94 := (p6_24.le (h6_29.trans (h7_1.trans (h7_8.trans h7_9))))
  have f95 := (o7_1.le (h7_8.trans h7_9))
  have f96 := (o7_8.le h7_9)
  refine W.ef rfl rfl rfl ?_
  refine Ef.call go43 rfl rfl ((by have h := cut_led (s := s15) (co := 2) (cS := 2) (cf := 3) f94 f95.vec f96.vec o7_9.vec (by omega) (by omega) (by omega) (fun q h0 h1 h2 => (show ∀ g, rowOf (some ⟨g7_1, 0, none⟩) 2 = some g → ¬ F6_24 g from (fun g hg hF => by have := p6_24.lt hF; have := h6_29.size; have := (f95.row hg).1; omega)) q (rowOf_of h0 (by have := f95.cap; omega))) (fun q h0 h1 h2 => (show ∀ g, rowOf (some ⟨g7_8, 0, none⟩) 2 = some g → ¬ F6_24 g from (fun g hg hF => by have := p6_24.lt hF; have := h6_29.size; have := h7_1.size; have := (f96.row hg).1; omega)) q (rowOf_of h0 (by have := f96.cap; omega))) (fun q h0 h1 h2 => (show ∀ g, rowOf (some ⟨g7_9, 0, none⟩) 3 = some g → ¬ F6_24 g from (fun g hg hF => by have := p6_24.lt hF; have := h6_29.size; have := h7_1.size; have := h7_8.size; have := (o7_9.row hg).1; omega)) q (rowOf_of h0 (by have := o7_9.cap; omega))); rw [e19] at h; exact h)) ?_
  rintro _ w7_10 ⟨F7_10, rfl, p7_10, g7_10, h7_10⟩
  refine ⟨_, rfl, ?_⟩
  have L97 := L93.chP_then h7_10 (fun i hi => Nat.le_trans L1.size (f94.old hi))
  have f98 := (zq85.le (h6_29.trans (h7_1.trans (h7_8.trans h7_9))))
  have f99 := (zq86.le (h6_29.trans (h7_1.trans (h7_8.trans h7_9))))
  have f100 := (zq87.le (h6_29.trans (h7_1.trans (h7_8.trans h7_9))))
  have f101 := (zq88.le (h6_29.trans (h7_1.trans (h7_8.trans h7_9))))
  have f102 := (zq89.le (h6_29.trans (h7_1.trans (h7_8.trans h7_9))))
  have zq103n := (show ∀ g, rowOf (some ⟨g1_0, 0, none⟩) 3 = some g → ¬ F6_24 g from zq85g)
  have zq103 := f98.chP h7_10 zq103n
  have zq103g : ∀ g, rowOf (some ⟨g1_0, 0, none⟩) 3 = some g → ¬ F7_10 g := fun g hg hF => (g7_10 _ hF).elim (zq103n g hg) (fun hz => by have := (f98.row hg).2; omega)
  have zq104n := (show ∀ g, rowOf (some ⟨g2_7, 0, none⟩) 2 = some g → ¬ F6_24 g from zq86g)
  have zq104 := f99.chP h7_10 zq104n
  have zq104g : ∀ g, rowOf (some ⟨g2_7, 0, none⟩) 2 = some g → ¬ F7_10 g := fun g hg hF => (g7_10 _ hF).elim (zq104n g hg) (fun hz => by have := (f99.row hg).2; omega)
  have zq105n := (show ∀ g, rowOf (some ⟨g2_12, 0, none⟩) 1 = some g → ¬ F6_24 g from zq87g)
  have zq105 := f100.chP h7_10 zq105n
  have zq105g : ∀ g, rowOf (some ⟨g2_12, 0, none⟩) 1 = some g → ¬ F7_10 g := fun g hg hF => (g7_10 _ hF).elim (zq105n g hg) (fun hz => by have := (f100.row hg).2; omega)
  have zq106n := (show ∀ g, rowOf (some ⟨g6_10, 0, none⟩) 2 = some g → ¬ F6_24 g from zq88g)
  have zq106 := f101.chP h7_10 zq106n
  have zq106g : ∀ g, rowOf (some ⟨g6_10, 0, none⟩) 2 = some g → ¬ F7_10 g := fun g hg hF => (g7_10 _ hF).elim (zq106n g hg) (fun hz => by have := (f101.row hg).2; omega)
  have zq107n := (show ∀ g, rowOf (some ⟨g6_23, 0, none⟩) 2 = some g → ¬ F6_24 g from zq89g)
  have zq107 := f102.chP h7_10 zq107n
  have zq107g : ∀ g, rowOf (some ⟨g6_23, 0, none⟩) 2 = some g → ¬ F7_10 g := fun g hg hF => (g7_10 _ hF).elim (zq107n g hg) (fun hz => by have := (f102.row hg).2; omega)
  have zq108n := (show ∀ g, rowOf (some ⟨g7_1, 0, none⟩) 2 = some g → ¬ F6_24 g from (fun g hg hF => by have := p6_24.lt hF; have := h6_29.size; have := (f95.row hg).1; omega))
  have zq108 := f95.chP h7_10 zq108n
  have zq108g : ∀ g, rowOf (some ⟨g7_1, 0, none⟩) 2 = some g → ¬ F7_10 g := fun g hg hF => (g7_10 _ hF).elim (zq108n g hg) (fun hz => by have := (f95.row hg).2; omega)
  have zq109n := (show ∀ g, rowOf (some ⟨g7_8, 0, none⟩) 2 = some g → ¬ F6_24 g from (fun g hg hF => by have := p6_24.lt hF; have := h6_29.size; have := h7_1.size; have := (f96.row hg).1; omega))
  have zq109 := f96.chP h7_10 zq109n
  have zq109g : ∀ g, rowOf (some ⟨g7_8, 0, none⟩) 2 = some g → ¬ F7_10 g := fun g hg hF => (g7_10 _ hF).elim (zq109n g hg) (fun hz => by have := (f96.row hg).2; omega)
  have zq110n := (show ∀ g, rowOf (some ⟨g7_9, 0, none⟩) 3 = some g → ¬ F6_24 g from (fun g hg hF => by have := p6_24.lt hF; have := h6_29.size; have := h7_1.size; have := h7_8.size; have := (o7_9.row hg).1; omega))
  have zq110 := o7_9.chP h7_10 zq110n
  have zq110g : ∀ g, rowOf (some ⟨g7_9, 0, none⟩) 3 = some g → ¬ F7_10 g := fun g hg hF => (g7_10 _ hF).elim (zq110n g hg) (fun hz => by have := (o7_9.row hg).2; omega)
  refine W.any (.dec (.eql rfl rfl) (show _ = true from by decide)) rfl rfl rfl ?_
  refine W.any (.move rfl) rfl rfl rfl ?_
  refine W.rdg (Any.rd (.move rfl) _) rfl rfl rfl (rfl) rfl rfl ?_
  refine W.rdg (Any.rd (.buildA (cells := (pairV (⟨(-20), 30⟩ : Pair)).toArray) Try.underlying31 sz3 z31 rfl rfl) _) rfl rfl rfl (rfl) rfl rfl ?_
  refine W.rdg (Any.rd (.buildA (cells := (pairV (⟨2, 0⟩ : Pair)).toArray) Try.underlying31 sz3 z31 rfl rfl) _) rfl rfl rfl (rfl) rfl rfl ?_
  refine W.efg rfl rfl rfl (rfl) rfl rfl ?_
  refine Ef.call go44 rfl rfl ((by have h := splice_led (s := s19) 9 (⟨(-20), 30⟩ : Pair) (⟨2, 0⟩ : Pair) (by intro k hk; have : k = 0 ∨ k = 1 := (by omega); rcases this with rfl | rfl <;> simp [Pair.ix]) p7_10; rw [e20] at h; exact h)) ?_
  rintro _ w7_16 ⟨F7_16, rfl, p7_16, g7_16, h7_16⟩
  refine ⟨_, rfl, ?_⟩
  have L111 := L97.chP_then h7_16 (fun i hi => Nat.le_trans L1.size (p7_10.old hi))
  have zq112n := (show ∀ g, rowOf (some ⟨g1_0, 0, none⟩) 3 = some g → ¬ F7_10 g from zq103g)
  have zq112 := zq103.chP h7_16 zq112n
  have zq112g : ∀ g, rowOf (some ⟨g1_0, 0, none⟩) 3 = some g → ¬ F7_16 g := fun g hg hF => (g7_16 _ hF).elim (zq112n g hg) (fun hz => by have := (zq103.row hg).2; omega)
  have zq113n := (show ∀ g, rowOf (some ⟨g2_7, 0, none⟩) 2 = some g → ¬ F7_10 g from zq104g)
  have zq113 := zq104.chP h7_16 zq113n
  have zq113g : ∀ g, rowOf (some ⟨g2_7, 0, none⟩) 2 = some g → ¬ F7_16 g := fun g hg hF => (g7_16 _ hF).elim (zq113n g hg) (fun hz => by have := (zq104.row hg).2; omega)
  have zq114n := (show ∀ g, rowOf (some ⟨g2_12, 0, none⟩) 1 = some g → ¬ F7_10 g from zq105g)
  have zq114 := zq105.chP h7_16 zq114n
  have zq114g : ∀ g, rowOf (some ⟨g2_12, 0, none⟩) 1 = some g → ¬ F7_16 g := fun g hg hF => (g7_16 _ hF).elim (zq114n g hg) (fun hz => by have := (zq105.row hg).2; omega)
  have zq115n := (show ∀ g, rowOf (some ⟨g6_10, 0, none⟩) 2 = some g → ¬ F7_10 g from zq106g)
  have zq115 := zq106.chP h7_16 zq115n
  have zq115g : ∀ g, rowOf (some ⟨g6_10, 0, none⟩) 2 = some g → ¬ F7_16 g := fun g hg hF => (g7_16 _ hF).elim (zq115n g hg) (fun hz => by have := (zq106.row hg).2; omega)
  have zq116n := (show ∀ g, rowOf (some ⟨g6_23, 0, none⟩) 2 = some g → ¬ F7_10 g from zq107g)
  have zq116 := zq107.chP h7_16 zq116n
  have zq116g : ∀ g, rowOf (some ⟨g6_23, 0, none⟩) 2 = some g → ¬ F7_16 g := fun g hg hF => (g7_16 _ hF).elim (zq116n g hg) (fun hz => by have := (zq107.row hg).2; omega)
  have zq117n := (show ∀ g, rowOf (some ⟨g7_1, 0, none⟩) 2 = some g → ¬ F7_10 g from zq108g)
  have zq117 := zq108.chP h7_16 zq117n
  have zq117g : ∀ g, rowOf (some ⟨g7_1, 0, none⟩) 2 = some g → ¬ F7_16 g := fun g hg hF => (g7_16 _ hF).elim (zq117n g hg) (fun hz => by have := (zq108.row hg).2; omega)
  have zq118n := (show ∀ g, rowOf (some ⟨g7_8, 0, none⟩) 2 = some g → ¬ F7_10 g from zq109g)
  have zq118 := zq109.chP h7_16 zq118n
  have zq118g : ∀ g, rowOf (some ⟨g7_8, 0, none⟩) 2 = some g → ¬ F7_16 g := fun g hg hF => (g7_16 _ hF).elim (zq118n g hg) (fun hz => by have := (zq109.row hg).2; omega)
  have zq119n := (show ∀ g, rowOf (some ⟨g7_9, 0, none⟩) 3 = some g → ¬ F7_10 g from zq110g)
  have zq119 := zq110.chP h7_16 zq119n
  have zq119g : ∀ g, rowOf (some ⟨g7_9, 0, none⟩) 3 = some g → ¬ F7_16 g := fun g hg hF => (g7_16 _ hF).elim (zq119n g hg) (fun hz => by have := (zq110.row hg).2; omega)
  refine W.rdg (Any.rd (.dec (.eql rfl rfl) (show _ = true from by decide)) _) rfl rfl rfl (rfl) rfl rfl ?_
  refine W.any (.pickT rfl rfl rfl) rfl rfl rfl ?_
  refine W.any (.move rfl) rfl rfl rfl ?_
  refine W.rdg (Any.rd (.move rfl) _) rfl rfl rfl (rfl) rfl rfl ?_
  refine W.efg rfl rfl rfl (rfl) rfl rfl ?_
  refine Ef.call go16 rfl rfl ((by have h := own_led (s := s20) 1 p7_16; rw [e21] at h; exact h)) ?_
  rintro _ w7_21 ⟨rfl, h7_21⟩
  refine ⟨_, rfl, ?_⟩
  have L120 := L111.trans h7_21
  refine W.rdg (Any.rd (.dec (.eql rfl rfl) (show _ = true from by decide)) _) rfl rfl rfl (rfl) rfl rfl ?_
  refine W.any (.pickT rfl rfl rfl) rfl rfl rfl ?_
  refine W.any (.move rfl) rfl rfl rfl ?_
  refine W.rdg (Any.rd (.move rfl) _) rfl rfl rfl (rfl) rfl rfl ?_
  have f121 := (p7_16.le h7_21)
  refine W.efg rfl rfl rfl (rfl) rfl rfl ?_
  refine Ef.call go16 rfl rfl ((by have h := own_led (s := s20) 0 f121; rw [e22] at h; exact h)) ?_
  rintro _ w7_26 ⟨rfl, h7_26⟩
  refine ⟨_, rfl, ?_⟩
  have L122 := L120.trans h7_26
  refine W.rdg (Any.rd (.dec (.eql rfl rfl) (show _ = true from by decide)) _) rfl rfl rfl (rfl) rfl rfl ?_
  refine W.any (.pickT rfl rfl rfl) rfl rfl rfl ?_
  refine W.any (.assign rfl) rfl rfl rfl ?_
  refine W.nil ?_
  refine E.thenN ?_
  refine WC.seq ?_
  refine WC.region ?_
  refine W.any (.move rfl) rfl rfl rfl ?_
  have f123 := (f121.le h7_26)
  refine W.ef rfl rfl rfl ?_
  refine Ef.call go14 rfl rfl ((by have h := seat_led (s := s20) 9 f123; rw [f1, f2] at h; exact h)) ?_
  rintro _ w8_1 ⟨rfl, h8_1⟩
  refine ⟨_, rfl, ?_⟩
  have L124 := L122.trans h8_1
  refine W.any (.move rfl) rfl rfl rfl ?_
  refine W.any (.extract (v := .agg (seatV (⟨9, 1, 0, 50, 30⟩ : Seat)).toArray) rfl rfl) rfl rfl rfl ?_
  refine W.any (.extract (v := .bool true) rfl rfl) rfl rfl rfl ?_
  refine W.ef rfl rfl rfl ?_
  refine Ef.allocA z33 ?_
  intro g8_5 w8_5 hg8_5 b8_5 h8_5
  have L125 := L124.trans h8_5
  have b8_5 : Blk w8_5 g8_5 33 (seatV noSeat).toArray := b8_5
  refine W.ef0 rfl rfl ?_
  refine Ef.storeAll sz33 (by rfl) rfl rfl b8_5 (by rfl) (seatV_row.one (⟨9, 1, 0, 50, 30⟩ : Seat)) ?_
  intro w8_6 b8_6 h8_6
  have b8_6 : Blk w8_6 g8_5 33 (seatV (⟨9, 1, 0, 50, 30⟩ : Seat)).toArray := b8_6
  have L126 : Le w w8_6 := L125.then_ h8_6 (fun q hq => by cases hq; exact Nat.le_trans L124.size hg8_5)
  refine W.any (.assign rfl) rfl rfl rfl ?_
  refine W.nil ?_
  refine E.thenN ?_
  refine WC.seq ?_
  refine WC.region ?_
  refine W.any (.move rfl) rfl rfl rfl ?_
  refine W.any (.move rfl) rfl rfl rfl ?_
  refine W.rdg (Any.rd (.move rfl) _) rfl rfl rfl (rfl) rfl rfl ?_
  refine W.any (.pickT rfl rfl rfl) rfl rfl rfl ?_
  refine W.any (.move rfl) rfl rfl rfl ?_
  refine W.rdg (Any.rd (.move rfl) _) rfl rfl rfl (rfl) rfl rfl ?_
  refine W.any (.pickT rfl rfl rfl) rfl rfl rfl ?_
  refine W.any (.move rfl) rfl rfl rfl ?_
  refine W.rdg (Any.rd (.move rfl) _) rfl rfl rfl (rfl) rfl rfl ?_
  refine W.any (.pickT rfl rfl rfl) rfl rfl rfl ?_
  refine W.any (.move rfl) rfl rfl rfl ?_
  refine W.rdg (Any.rd (.move rfl) _) rfl rfl rfl (rfl) rfl rfl ?_
  refine W.any (.pickT rfl rfl rfl) rfl rfl rfl ?_
  refine W.any (.move rfl) rfl rfl rfl ?_
  refine W.rdg (Any.rd (.field0 fa33_2 rfl) _) rfl rfl rfl (rfl) rfl rfl ?_
  refine W.rdg (.bpart [.int .i64 ((⟨9, 1, 0, 50, 30⟩ : Seat).h0), .int .i64 ((⟨9, 1, 0, 50, 30⟩ : Seat).h1)] ag31 rfl (by decide) rfl b8_6 rfl) rfl rfl rfl (rfl) rfl rfl ?_
  refine W.rdg (Any.rd (.buildA (cells := (pairV (⟨50, 30⟩ : Pair)).toArray) Try.underlying31 sz3 z31 rfl rfl) _) rfl rfl rfl (rfl) rfl rfl ?_
  refine W.rdg (Any.rd (.dec (.eqA eg31 rfl rfl (eqv_pairV (d := 9998) (⟨(⟨9, 1, 0, 50, 30⟩ : Seat).h0, (⟨9, 1, 0, 50, 30⟩ : Seat).h1⟩ : Pair) (⟨50, 30⟩ : Pair))) (show _ = true from by decide)) _) rfl rfl rfl (rfl) rfl rfl ?_
  refine W.any (.pickT rfl rfl rfl) rfl rfl rfl ?_
  refine W.any (.move rfl) rfl rfl rfl ?_
  refine W.rdg (Any.rd (.move rfl) _) rfl rfl rfl (rfl) rfl rfl ?_
  have f127 := ((f123.le (h8_1.trans h8_5)).ch h8_6 (fun q hqq hF => by cases hqq; have := f123.lt hF; have := h8_1.size; have := hg8_5; omega))
  refine W.efg rfl rfl rfl (rfl) rfl rfl ?_
  refine Ef.call go23 rfl rfl ((by have h := seats_led (s := s20) f127; rw [f3] at h; exact h)) ?_
  rintro _ w9_21 ⟨A9_21, c9_21, rfl, o9_21, h9_21⟩
  refine ⟨_, rfl, ?_⟩
  have L128 := L126.trans h9_21
  refine W.rdg (.len Try.underlying50 rfl) rfl rfl rfl (rfl) rfl rfl ?_
  refine W.rdg (Any.rd (.dec (.eql rfl rfl) (show _ = true from by decide)) _) rfl rfl rfl (rfl) rfl rfl ?_
  refine W.any (.pickT rfl rfl rfl) rfl rfl rfl ?_
  refine W.any (.move rfl) rfl rfl rfl ?_
  refine W.rdg (Any.rd (.move rfl) _) rfl rfl rfl (rfl) rfl rfl ?_
  have f129 := (f127.le h9_21)
  refine W.efg rfl rfl rfl (rfl) rfl rfl ?_
  refine Ef.call go20 rfl rfl ((by have h := total_led (s := s20) f129; rw [f4] at h; exact h)) ?_
  rintro _ w9_27 ⟨rfl, h9_27⟩
  refine ⟨_, rfl, ?_⟩
  have L130 := L128.trans h9_27
  refine W.rdg (Any.rd (.move rfl) _) rfl rfl rfl (rfl) rfl rfl ?_
  have f131 := (f129.le h9_27)
  refine W.efg rfl rfl rfl (rfl) rfl rfl ?_
  refine Ef.call go17 rfl rfl ((by have h := lost_led (s := s20) f131; rw [f5] at h; exact h)) ?_
  rintro _ w9_29 ⟨rfl, h9_29⟩
  refine ⟨_, rfl, ?_⟩
  have L132 := L130.trans h9_29
  refine W.rdg (Any.rd (.add rfl rfl (by omega)) _) rfl rfl rfl (rfl) rfl rfl ?_
  refine W.rdg (Any.rd (.dec (.eql rfl rfl) (show _ = true from by decide)) _) rfl rfl rfl (rfl) rfl rfl ?_
  refine W.any (.pickT rfl rfl rfl) rfl rfl rfl ?_
  refine W.any (.move rfl) rfl rfl rfl ?_
  refine W.rdg (Any.rd (.move rfl) _) rfl rfl rfl (rfl) rfl rfl ?_
  have f133 := (f131.le h9_29)
  refine W.efg rfl rfl rfl (rfl) rfl rfl ?_
  refine Ef.call go17 rfl rfl ((by have h := lost_led (s := s20) f133; rw [f5] at h; exact h)) ?_
  rintro _ w9_35 ⟨rfl, h9_35⟩
  refine ⟨_, rfl, ?_⟩
  have L134 := L132.trans h9_35
  refine W.rdg (Any.rd (.dec (.eql rfl rfl) (show _ = true from by decide)) _) rfl rfl rfl (rfl) rfl rfl ?_
  refine W.any (.pickT rfl rfl rfl) rfl rfl rfl ?_
  refine W.any (.assign rfl) rfl rfl rfl ?_
  refine W.nil ?_
  refine E.thenN ?_
  refine WC.ret ?_
  refine E.retG1 rfl rfl ?_
  exact ⟨rfl, L134⟩
end Go.Proofs.Ytnmcbdbpafhinaa

namespace Go.Proofs.Ytnmcbdbpafhinaa
open Go Go.Sx Go.Num Go.Gsp Go.Lsp
set_option maxRecDepth 20000
set_option linter.unusedSimpArgs false
set_option linter.unusedVariables false
def fourV (x : Four) : List Value := [.int .u16 ((x.a : Nat) : Int), .int .u16 ((x.b : Nat) : Int), .int .u16 ((x.c : Nat) : Int), .int .u16 ((x.d : Nat) : Int)]
def triV (x : Tri) : List Value := [.int .i64 x.a, .int .i64 x.b, .int .i64 x.c]
theorem triV_row : RowF triV 3 := ⟨fun _ => rfl, fun x v hv => by simp [triV] at hv; rcases hv with rfl | rfl | rfl <;> rfl, by decide⟩
theorem tri_at (x : Tri) {j : Nat} (h : j < 3) : (triV x).toArray[0 + j]? = some (.int .i64 (x.ix j)) := by
  have : j = 0 ∨ j = 1 ∨ j = 2 := by omega
  rcases this with rfl | rfl | rfl <;> rfl
theorem tri_set (x : Tri) (v : Int) {j : Nat} (h : j < 3) : (triV x).toArray.setIfInBounds (0 + j) (.int .i64 v) = (triV (x.set j v)).toArray := by
  have : j = 0 ∨ j = 1 ∨ j = 2 := by omega
  rcases this with rfl | rfl | rfl <;> rfl
theorem world46_ok {x : Four} (hx : x.ok) (w : World) : Calls Try.prog 12 #[.agg (fourV x).toArray] w fun r w' => ∃ gp F, r = .returned (.pointer (some ⟨gp, 0, none⟩)) ∧ LPool w' w.heap.size gp F (wS x) ∧ Le w w' := by
  have hx0 := hx
  obtain ⟨hx1, hx2, hx3, hx4⟩ := hx0
  refine enter Try.func12 rfl rfl ?_
  have L0 := Le.refl w
  refine WC.seq ?_
  refine WC.region ?_
  refine W.ef rfl rfl rfl ?_
  refine Ef.boxA rfl ?_
  intro g0_0 w0_0 hg0_0 b0_0 h0_0
  have L1 := L0.trans h0_0
  have b0_0 : Blk w0_0 g0_0 23 (fourV x).toArray := b0_0
  refine W.any (.assign rfl) rfl rfl rfl ?_
  refine W.nil ?_
  refine E.thenN ?_
  refine WC.seq ?_
  refine WC.region ?_
  refine W.ef rfl rfl rfl ?_
  refine Ef.buildSliceV (len := 3) [_, _, _] Try.underlying41 el3 rfl (by simp [Value.cells]) rfl (by decide) (by decide) ?_
  intro g1_0 w1_0 hg1_0 b1_0 h1_0
  have L2 := L1.trans h1_0
  have b1_0 : Blk w1_0 g1_0 3 (([200000, 200000, 200000]).map iv).flatten.toArray := b1_0
  have o1_0 : OVec w1_0 w0_0.heap.size 3 iv 1 (some ⟨g1_0, 0, none⟩) 3 3 ([200000, 200000, 200000]) := b1_0.ovec hg1_0 iv_row rfl rfl (by decide)
  refine W.ef rfl rfl rfl ?_
  refine Ef.call go18 rfl rfl (new_led w1_0 o1_0.vec (by decide)) ?_
  rintro _ w1_1 ⟨gp1_1, F1_1, rfl, p1_1, h1_1⟩
  refine ⟨_, rfl, ?_⟩
  have L3 := L2.trans h1_1
  refine W.any (.assign rfl) rfl rfl rfl ?_
  refine W.nil ?_
  refine E.thenN ?_
  refine WC.seq ?_
  refine WC.seq ?_
  refine WC.region ?_
  refine W.any (.move rfl) rfl rfl rfl ?_
  refine W.any (.dec (.isNilP (by kernel_rfl) rfl) rfl) rfl rfl rfl ?_
  refine W.nil ?_
  refine E.thenN ?_
  refine WC.condF rfl ?_
  refine WC.skip ?_
  refine E.thenN ?_
  refine WC.seq ?_
  refine WC.region ?_
  refine W.any (.move rfl) rfl rfl rfl ?_
  refine W.any (.buildA (cells := (pairV (⟨0, 1⟩ : Pair)).toArray) Try.underlying31 sz3 z31 rfl rfl) rfl rfl rfl ?_
  refine W.any (.idxAo (0) Try.underlying23 sz22 rfl rfl (rfl) (by omega)) rfl rfl rfl ?_
  have f4 := (b0_0.le (h1_0.trans h1_1))
  refine W.rd (.loadB (v := .int .u16 (((x.a : Nat) : Int))) na22 rfl f4 rfl) rfl rfl rfl ?_
  refine W.rd (.idI (isS Try.underlying22) Try.underlying3 rfl (IntWalk.i64_in _ (by omega))) rfl rfl rfl ?_
  refine W.any (.idxAo (1) Try.underlying23 sz22 rfl rfl (rfl) (by omega)) rfl rfl rfl ?_
  refine W.rd (.loadB (v := .int .u16 (((x.b : Nat) : Int))) na22 rfl f4 rfl) rfl rfl rfl ?_
  refine W.rd (.idI (isS Try.underlying22) Try.underlying3 rfl (IntWalk.i64_in _ (by omega))) rfl rfl rfl ?_
  refine W.any (.buildA (cells := (pairV (⟨((x.a : Nat) : Int), ((x.b : Nat) : Int)⟩ : Pair)).toArray) Try.underlying31 sz3 z31 rfl rfl) rfl rfl rfl ?_
  refine W.any (.buildP (seatV (⟨1, 0, 1, ((x.a : Nat) : Int), ((x.b : Nat) : Int)⟩ : Seat)) pl33 z33 rfl rfl) rfl rfl rfl ?_
  refine W.ef rfl rfl rfl ?_
  refine Ef.call go40 rfl rfl ((by have h := open_led (s := s3) (⟨1, 0, 1, ((x.a : Nat) : Int), ((x.b : Nat) : Int)⟩ : Seat) 0 p1_1; rw [world_1 hx] at h; exact h)) ?_
  rintro _ w4_10 ⟨F4_10, rfl, p4_10, g4_10, h4_10⟩
  refine ⟨_, rfl, ?_⟩
  have L5 := L3.chP_then h4_10 (fun i hi => Nat.le_trans L2.size (p1_1.old hi))
  have f6 := (o1_0.le h1_1)
  have zq7n := (show ¬ F1_1 g0_0 from (fun hF => by have := p1_1.old hF; have := b0_0.lt; have := h1_0.size; omega))
  have zq7 := f4.chP h4_10 zq7n
  have zq7g : ¬ F4_10 g0_0 := fun hF => (g4_10 _ hF).elim zq7n (fun hz => by have := f4.lt; omega)
  have zq8n := (show ∀ g, rowOf (some ⟨g1_0, 0, none⟩) 3 = some g → ¬ F1_1 g from (fun g hg hF => by have := p1_1.old hF;  have := (o1_0.row hg).2; omega))
  have zq8 := f6.chP h4_10 zq8n
  have zq8g : ∀ g, rowOf (some ⟨g1_0, 0, none⟩) 3 = some g → ¬ F4_10 g := fun g hg hF => (g4_10 _ hF).elim (zq8n g hg) (fun hz => by have := (f6.row hg).2; omega)
  refine W.any (.assign rfl) rfl rfl rfl ?_
  refine W.nil ?_
  refine E.thenN ?_
  refine WC.seq ?_
  refine WC.region ?_
  refine W.any (.move rfl) rfl rfl rfl ?_
  refine W.any (.buildA (cells := (pairV (⟨1, 2⟩ : Pair)).toArray) Try.underlying31 sz3 z31 rfl rfl) rfl rfl rfl ?_
  refine W.any (.idxAo (2) Try.underlying23 sz22 rfl rfl (rfl) (by omega)) rfl rfl rfl ?_
  refine W.rd (.loadB (v := .int .u16 (((x.c : Nat) : Int))) na22 rfl zq7 rfl) rfl rfl rfl ?_
  refine W.rd (.idI (isS Try.underlying22) Try.underlying3 rfl (IntWalk.i64_in _ (by omega))) rfl rfl rfl ?_
  refine W.any (.idxAo (3) Try.underlying23 sz22 rfl rfl (rfl) (by omega)) rfl rfl rfl ?_
  refine W.rd (.loadB (v := .int .u16 (((x.d : Nat) : Int))) na22 rfl zq7 rfl) rfl rfl rfl ?_
  refine W.rd (.idI (isS Try.underlying22) Try.underlying3 rfl (IntWalk.i64_in _ (by omega))) rfl rfl rfl ?_
  refine W.any (.buildA (cells := (pairV (⟨((x.c : Nat) : Int), ((x.d : Nat) : Int)⟩ : Pair)).toArray) Try.underlying31 sz3 z31 rfl rfl) rfl rfl rfl ?_
  refine W.any (.buildP (seatV (⟨2, 1, 2, ((x.c : Nat) : Int), ((x.d : Nat) : Int)⟩ : Seat)) pl33 z33 rfl rfl) rfl rfl rfl ?_
  refine W.ef rfl rfl rfl ?_
  refine Ef.call go40 rfl rfl ((by have h := open_led (s := (w1 x)) (⟨2, 1, 2, ((x.c : Nat) : Int), ((x.d : Nat) : Int)⟩ : Seat) 0 p4_10; rw [world_2 hx] at h; exact h)) ?_
  rintro _ w5_10 ⟨F5_10, rfl, p5_10, g5_10, h5_10⟩
  refine ⟨_, rfl, ?_⟩
  have L9 := L5.chP_then h5_10 (fun i hi => Nat.le_trans L2.size (p4_10.old hi))
  have zq10n := (show ¬ F4_10 g0_0 from zq7g)
  have zq10 := zq7.chP h5_10 zq10n
  have zq10g : ¬ F5_10 g0_0 := fun hF => (g5_10 _ hF).elim zq10n (fun hz => by have := zq7.lt; omega)
  have zq11n := (show ∀ g, rowOf (some ⟨g1_0, 0, none⟩) 3 = some g → ¬ F4_10 g from zq8g)
  have zq11 := zq8.chP h5_10 zq11n
  have zq11g : ∀ g, rowOf (some ⟨g1_0, 0, none⟩) 3 = some g → ¬ F5_10 g := fun g hg hF => (g5_10 _ hF).elim (zq11n g hg) (fun hz => by have := (zq8.row hg).2; omega)
  refine W.any (.assign rfl) rfl rfl rfl ?_
  refine W.nil ?_
  refine E.thenN ?_
  refine WC.seq ?_
  refine WC.seq ?_
  refine WC.region ?_
  refine W.any (.move rfl) rfl rfl rfl ?_
  refine W.any (.dec (.neq rfl rfl) (show _ = false from by first | decide | rfl)) rfl rfl rfl ?_
  refine W.any (.move rfl) rfl rfl rfl ?_
  refine W.rdg (Any.rd (.move rfl) _) rfl rfl rfl (rfl) rfl rfl ?_
  refine W.rdg (Any.rd (.dec (.neq rfl rfl) (show _ = false from by first | decide | rfl)) _) rfl rfl rfl (rfl) rfl rfl ?_
  refine W.any (.pickF rfl rfl rfl) rfl rfl rfl ?_
  refine W.nil ?_
  refine E.thenN ?_
  refine WC.condF rfl ?_
  refine WC.skip ?_
  refine E.thenN ?_
  refine WC.seq ?_
  refine WC.region ?_
  refine W.any (.move rfl) rfl rfl rfl ?_
  refine W.any (.assign rfl) rfl rfl rfl ?_
  refine W.nil ?_
  refine E.thenN ?_
  refine WC.ret ?_
  refine E.retG1 rfl rfl ?_
  exact ⟨_, _, rfl, (show LPool _ _ _ _ _ from by have hh := p5_10; obtain ⟨gs, gh, A, c, h1, h2, h3, h4⟩ := hh; exact ⟨gs, gh, A, c, h1, h2, h3, fun k hk => by have := h4 k hk; have := L2.size; omega⟩), L9⟩

theorem LedgerPays_ok {x : Four} {Al : Option Addr} {nl cl : Nat} {legs : List Leg} (hx : x.ok) (w : World) (hl : Vec w legV 3 Al nl legs) : Calls Try.prog 3 #[.agg (fourV x).toArray, .slice Al nl cl] w fun r w' => r = .returned (.bool true) ∧ Le w w' := by
  have hx0 := hx
  obtain ⟨hx1, hx2, hx3, hx4⟩ := hx0
  have hln := hl.1
  refine enter Try.func3 rfl rfl ?_
  have L0 := Le.refl w
  refine WC.seq ?_
  refine WC.region ?_
  refine W.ef rfl rfl rfl ?_
  refine Ef.boxA rfl ?_
  intro g0_0 w0_0 hg0_0 b0_0 h0_0
  have L1 := L0.trans h0_0
  have b0_0 : Blk w0_0 g0_0 23 (fourV x).toArray := b0_0
  refine W.any (.assign rfl) rfl rfl rfl ?_
  refine W.nil ?_
  refine E.thenN ?_
  refine WC.seq ?_
  refine WC.region ?_
  refine W.ef rfl rfl rfl ?_
  refine Ef.call go11 rfl rfl (small46_ok w0_0) ?_
  rintro _ w1_0 ⟨rfl, h1_0⟩
  refine ⟨_, rfl, ?_⟩
  have L2 := L1.trans h1_0
  refine W.any (.assign rfl) rfl rfl rfl ?_
  refine W.nil ?_
  refine E.thenN ?_
  refine WC.seq ?_
  refine WC.region ?_
  have f3 := (b0_0.le h1_0)
  refine W.rd (.loadAll ag23 (by rfl) rfl f3) rfl rfl rfl ?_
  refine W.ef rfl rfl rfl ?_
  refine Ef.call go12 rfl rfl (world46_ok hx w1_0) ?_
  rintro _ w2_1 ⟨gp2_1, F2_1, rfl, p2_1, h2_1⟩
  refine ⟨_, rfl, ?_⟩
  have L4 := L2.trans h2_1
  refine W.any (.assign rfl) rfl rfl rfl ?_
  refine W.nil ?_
  refine E.thenN ?_
  refine WC.seq ?_
  refine WC.seq ?_
  refine WC.region ?_
  refine W.any (.move rfl) rfl rfl rfl ?_
  refine W.rd (.len Try.underlying24 rfl) rfl rfl rfl ?_
  refine W.any (.gtr rfl rfl) rfl rfl rfl ?_
  refine W.nil ?_
  refine E.thenN ?_
  by_cases c0 : 12 < ((nl : Nat) : Int)
  · refine WC.condY rfl (decide_eq_true c0) ?_
    refine WC.seq ?_
    refine WC.region ?_
    refine W.any (.move rfl) rfl rfl rfl ?_
    refine W.any (.assign rfl) rfl rfl rfl ?_
    refine W.nil ?_
    refine E.thenN ?_
    refine WC.ret ?_
    refine E.thenR ?_
    refine E.retG1 rfl rfl ?_
    exact ⟨rfl, L4⟩
  · refine WC.condN rfl (decide_eq_false c0) ?_
    refine WC.skip ?_
    refine E.thenN ?_
    refine WC.seq ?_
    refine WC.seq ?_
    refine WC.region ?_
    refine W.any (.move rfl) rfl rfl rfl ?_
    refine W.any (.dec (.isNilP (by kernel_rfl) rfl) rfl) rfl rfl rfl ?_
    refine W.nil ?_
    refine E.thenN ?_
    refine WC.condF rfl ?_
    refine WC.skip ?_
    refine E.thenN ?_
    refine WC.seq ?_
    refine WC.region ?_
    refine W.any (.move rfl) rfl rfl rfl ?_
    refine W.any (.move rfl) rfl rfl rfl ?_
    refine W.ef rfl rfl rfl ?_
    refine Ef.call go13 rfl rfl (pay_led (s := (wS x)) (cg := cl) p2_1 (hl.le L4) (by omega) (fun q h0 h1 h2 h3 => by have := hl.blk_lt legV_row h1 h0; have := p2_1.old h3; have := L2.size; omega)) ?_
    rintro _ w7_2 ⟨F7_2, rfl, p7_2, g7_2, h7_2⟩
    refine ⟨_, rfl, ?_⟩
    have L5 := L4.chP_then h7_2 (fun i hi => Nat.le_trans L2.size (p2_1.old hi))
    have f6 := (f3.le h2_1)
    have zq7n := (show ¬ F2_1 g0_0 from (fun hF => by have := p2_1.old hF; have := f3.lt; omega))
    have zq7 := f6.chP h7_2 zq7n
    have zq7g : ¬ F7_2 g0_0 := fun hF => (g7_2 _ hF).elim zq7n (fun hz => by have := f6.lt; omega)
    refine W.any (.assign rfl) rfl rfl rfl ?_
    refine W.nil ?_
    refine E.thenN ?_
    refine WC.seq ?_
    refine WC.region ?_
    by_cases qc8_0 : ((payL (wS x) legs).2) = 0
    · obtain ⟨y1, y2, y3⟩ := payW_ok qc8_0
      refine W.any (.buildA (cells := (triV noTri).toArray) Try.underlying30 sz3 z30 rfl rfl) rfl rfl rfl ?_
      refine W.ef rfl rfl rfl ?_
      refine Ef.allocA z30 ?_
      intro g8_1 w8_1 hg8_1 b8_1 h8_1
      have L8 := L5.trans h8_1
      have b8_1 : Blk w8_1 g8_1 30 (triV noTri).toArray := b8_1
      refine W.ef0 rfl rfl ?_
      refine Ef.storeAll sz30 (by rfl) rfl rfl b8_1 (by rfl) (triV_row.one noTri) ?_
      intro w8_2 b8_2 h8_2
      have b8_2 : Blk w8_2 g8_1 30 (triV noTri).toArray := b8_2
      have L9 : Le w w8_2 := L8.then_ h8_2 (fun q hq => by cases hq; exact Nat.le_trans L5.size hg8_1)
      refine W.nil ?_
      refine E.thenN ?_
      refine WC.seq ?_
      refine WC.seq ?_
      refine WC.region ?_
      refine W.any (.assign rfl) rfl rfl rfl ?_
      refine W.nil ?_
      refine E.thenN ?_
      refine WC.block ?_
      have f10 := ((p7_2.le h8_1).ch h8_2 (fun q hqq hF => by cases hqq; have := p7_2.lt hF;  have := hg8_1; omega))
      refine WC.loop (ι := Nat) (fun k => [(1, .slice Al nl cl), (5, .bool true), (6, .pointer (some ⟨gp2_1, 0, none⟩)), (7, .int .i64 ((payL (wS x) legs).2)), (8, .pointer (some ⟨g8_1, 0, none⟩)), (9, .int .i64 (((k : Nat) : Int)))]) (fun k wl0 => (k ≤ nl) ∧ Le w wl0 ∧ w8_2.heap.size ≤ wl0.heap.size ∧ LPool wl0 w1_0.heap.size gp2_1 F7_2 (payW x legs) ∧ Blk wl0 g8_1 30 (triV (chgK (payW x legs).ls (legs.take k))).toArray) (fun k => nl - k) 0 ?_ ?_ ?_
      · exact .cons rfl (.cons rfl (.cons rfl (.cons rfl (.cons rfl (.cons rfl (.nil _))))))
      · exact ⟨Nat.zero_le _, L9, Nat.le_refl _, f10, b8_2⟩
      · rintro k wl0 ⟨hk, Ll0, zl0, f0_0, f0_1⟩
        have hcb := chg_bound (ls := (payW x legs).ls) (fun g hg => (y1 g hg).1) k (by omega)
        refine WC.seq ?_
        refine WC.seq ?_
        refine WC.region ?_
        refine W.any (.move rfl) rfl rfl rfl ?_
        refine W.any (.move rfl) rfl rfl rfl ?_
        refine W.rd (.len Try.underlying24 rfl) rfl rfl rfl ?_
        refine W.any (.lss rfl rfl) rfl rfl rfl ?_
        by_cases q10_4 : ((k : Nat) : Int) < ((nl : Nat) : Int)
        · refine W.any (.dec (.move rfl) (decide_eq_true q10_4)) rfl rfl rfl ?_
          refine W.rdg (Any.rd (.move rfl) _) rfl rfl rfl (rfl) rfl rfl ?_
          refine W.rdg (Any.rd (.eql rfl rfl) _) rfl rfl rfl (rfl) rfl rfl ?_
          refine W.any (.pickT rfl rfl rfl) rfl rfl rfl ?_
          refine W.nil ?_
          refine E.thenN ?_
          refine WC.condY rfl (decide_eq_true qc8_0) ?_
          have hlg := y1 _ (getD_mem (z := noLeg) (show k < legs.length by omega))
          have hst := payW_seat qc8_0 hlg.2
          obtain ⟨⟨o1, o2⟩, o3, o4⟩ := hlg.1
          have hmid := stepC_mid hlg.1 hcb ((seatAt' (payW x legs).ls (legs.getD k noLeg).ch).p (legs.getD k noLeg).side.toNat).toNat
          refine WC.skip ?_
          refine E.thenN ?_
          refine WC.seq ?_
          refine WC.block ?_
          refine WC.seq ?_
          refine WC.region ?_
          refine W.any (.move rfl) rfl rfl rfl ?_
          refine W.any (.move rfl) rfl rfl rfl ?_
          refine W.any (.move rfl) rfl rfl rfl ?_
          refine W.any (.idxS (k) Try.underlying24 sz37 rfl rfl (hl.isSome legV_row (by omega)) (rfl) (by omega)) rfl rfl rfl ?_
          refine W.any (.vfield fa37_0 (hl.isSome legV_row (by omega)) rfl) rfl rfl rfl ?_
          refine W.rd (.vcell (j := k) (o := 0) (v := .int .i64 ((legs.getD k noLeg).ch)) na3 rfl (hl.le Ll0) legV_row (getS legs noLeg (by first | omega | (simp only [List.length_cons, List.length_nil]; omega))) rfl) rfl rfl rfl ?_
          refine W.ef rfl rfl rfl ?_
          refine Ef.call go14 rfl rfl ((by have h := seat_led (s := (payW x legs)) ((legs.getD k noLeg).ch) f0_0; rw [hst.1] at h; exact h)) ?_
          rintro _ w12_6 ⟨rfl, h12_6⟩
          refine ⟨_, rfl, ?_⟩
          have L11 := Ll0.trans h12_6
          refine W.any (.move rfl) rfl rfl rfl ?_
          refine W.any (.extract (v := .agg (seatV (seatAt' (payW x legs).ls (legs.getD k noLeg).ch)).toArray) rfl rfl) rfl rfl rfl ?_
          refine W.any (.extract (v := .bool true) rfl rfl) rfl rfl rfl ?_
          refine W.ef rfl rfl rfl ?_
          refine Ef.allocA z33 ?_
          intro g12_10 w12_10 hg12_10 b12_10 h12_10
          have L12 := L11.trans h12_10
          have b12_10 : Blk w12_10 g12_10 33 (seatV noSeat).toArray := b12_10
          refine W.ef0 rfl rfl ?_
          refine Ef.storeAll sz33 (by rfl) rfl rfl b12_10 (by rfl) (seatV_row.one (seatAt' (payW x legs).ls (legs.getD k noLeg).ch)) ?_
          intro w12_11 b12_11 h12_11
          have b12_11 : Blk w12_11 g12_10 33 (seatV (seatAt' (payW x legs).ls (legs.getD k noLeg).ch)).toArray := b12_11
          have L13 : Le w w12_11 := L12.then_ h12_11 (fun q hq => by cases hq; exact Nat.le_trans L11.size hg12_10)
          refine W.any (.assign rfl) rfl rfl rfl ?_
          refine W.nil ?_
          refine E.thenN ?_
          refine WC.seq ?_
          refine WC.region ?_
          refine W.any (.move rfl) rfl rfl rfl ?_
          refine W.any (.move rfl) rfl rfl rfl ?_
          refine W.any (.idxS (k) Try.underlying24 sz37 rfl rfl (hl.isSome legV_row (by omega)) (rfl) (by omega)) rfl rfl rfl ?_
          refine W.rd (.vload ag37 rfl (hl.le L13) legV_row (getS legs noLeg (by first | omega | (simp only [List.length_cons, List.length_nil]; omega)))) rfl rfl rfl ?_
          refine W.ef rfl rfl rfl ?_
          refine Ef.allocA z37 ?_
          intro g13_4 w13_4 hg13_4 b13_4 h13_4
          have L14 := L13.trans h13_4
          have b13_4 : Blk w13_4 g13_4 37 (legV noLeg).toArray := b13_4
          refine W.ef0 rfl rfl ?_
          refine Ef.storeAll sz37 (by rfl) rfl rfl b13_4 (by rfl) (legV_row.one (legs.getD k noLeg)) ?_
          intro w13_5 b13_5 h13_5
          have b13_5 : Blk w13_5 g13_4 37 (legV (legs.getD k noLeg)).toArray := b13_5
          have L15 : Le w w13_5 := L14.then_ h13_5 (fun q hq => by cases hq; exact Nat.le_trans L13.size hg13_4)
          refine W.nil ?_
          refine E.thenN ?_
          refine WC.seq ?_
          refine WC.seq ?_
          refine WC.region ?_
          refine W.any (.move rfl) rfl rfl rfl ?_
          refine W.any (.not rfl) rfl rfl rfl ?_
          refine W.any (.move rfl) rfl rfl rfl ?_
          refine W.rdg (Any.rd (.field0 fa37_1 rfl) _) rfl rfl rfl (rfl) rfl rfl ?_
          refine W.rdg (.loadB (v := .int .i64 ((legs.getD k noLeg).side)) na3 rfl b13_5 rfl) rfl rfl rfl (rfl) rfl rfl ?_
          refine W.rdg (Any.rd (.dec (.lss rfl rfl) (decide_eq_false (by omega))) _) rfl rfl rfl (rfl) rfl rfl ?_
          refine W.any (.pickF rfl rfl rfl) rfl rfl rfl ?_
          refine W.any (.move rfl) rfl rfl rfl ?_
          refine W.rdg (Any.rd (.field0 fa37_1 rfl) _) rfl rfl rfl (rfl) rfl rfl ?_
          refine W.rdg (.loadB (v := .int .i64 ((legs.getD k noLeg).side)) na3 rfl b13_5 rfl) rfl rfl rfl (rfl) rfl rfl ?_
          refine W.rdg (Any.rd (.dec (.gtr rfl rfl) (decide_eq_false (by omega))) _) rfl rfl rfl (rfl) rfl rfl ?_
          refine W.any (.pickF rfl rfl rfl) rfl rfl rfl ?_
          refine W.any (.move rfl) rfl rfl rfl ?_
          refine W.rdg (Any.rd (.field0 fa37_2 rfl) _) rfl rfl rfl (rfl) rfl rfl ?_
          refine W.rdg (.loadB (v := .int .i64 ((legs.getD k noLeg).am)) na3 rfl b13_5 rfl) rfl rfl rfl (rfl) rfl rfl ?_
          refine W.rdg (Any.rd (.dec (.lss rfl rfl) (decide_eq_false (by omega))) _) rfl rfl rfl (rfl) rfl rfl ?_
          refine W.any (.pickF rfl rfl rfl) rfl rfl rfl ?_
          refine W.nil ?_
          refine E.thenN ?_
          refine WC.condF rfl ?_
          refine WC.skip ?_
          refine E.thenN ?_
          refine WC.seq ?_
          refine WC.draw [0, 1, 2, 3, 4, 5, 6, 7, 8, 9, 10, 11, 12, 13, 14, 15, 16] mixed (by kernel_rfl) ?_
          intro w16 d16
          have L16 := L15.trans d16
          refine G.any rfl rfl (.field0 fa37_1 rfl) rfl rfl rfl ?_
          have f17 := (b13_5.le d16)
          refine G.rd rfl rfl (.loadB (v := .int .i64 ((legs.getD k noLeg).side)) na3 rfl f17 rfl) rfl rfl rfl ?_
          refine G.any rfl rfl (.field0 fa33_1 rfl) rfl rfl rfl ?_
          refine G.any rfl rfl (.idxAo ((legs.getD k noLeg).side.toNat) Try.underlying31 sz3 rfl rfl (by omega) (by omega)) rfl rfl rfl ?_
          have f18 := (((b12_11.le h13_4).ch h13_5 (fun h => (show g13_4 ≠ g12_10 from by have := b12_11.lt; omega) (Option.some.inj h))).le d16)
          refine G.rd rfl rfl (.loadB (v := .int .i64 (((seatAt' (payW x legs).ls (legs.getD k noLeg).ch).p ((legs.getD k noLeg).side.toNat)))) na3 rfl f18 (seatP_at (seatAt' (payW x legs).ls (legs.getD k noLeg).ch) (by omega))) rfl rfl rfl ?_
          refine G.any rfl rfl (.field0 fa37_1 rfl) rfl rfl rfl ?_
          refine G.rd rfl rfl (.loadB (v := .int .i64 ((legs.getD k noLeg).side)) na3 rfl f17 rfl) rfl rfl rfl ?_
          refine G.any rfl rfl (.field0 fa33_1 rfl) rfl rfl rfl ?_
          refine G.any rfl rfl (.idxAo ((legs.getD k noLeg).side.toNat) Try.underlying31 sz3 rfl rfl (by omega) (by omega)) rfl rfl rfl ?_
          refine G.rd rfl rfl (.loadB (v := .int .i64 (((seatAt' (payW x legs).ls (legs.getD k noLeg).ch).p ((legs.getD k noLeg).side.toNat)))) na3 rfl f18 (seatP_at (seatAt' (payW x legs).ls (legs.getD k noLeg).ch) (by omega))) rfl rfl rfl ?_
          refine G.any rfl rfl (.idxAo (((seatAt' (payW x legs).ls (legs.getD k noLeg).ch).p (legs.getD k noLeg).side.toNat).toNat) Try.underlying30 sz3 rfl rfl (by have := hst.2 (legs.getD k noLeg).side.toNat; omega) (by have := hst.2 (legs.getD k noLeg).side.toNat; omega)) rfl rfl rfl ?_
          have f19 := (((((f0_1.le (h12_6.trans h12_10)).ch h12_11 (fun h => (show g12_10 ≠ g8_1 from by have := f0_1.lt; have := h12_6.size; omega) (Option.some.inj h))).le h13_4).ch h13_5 (fun h => (show g13_4 ≠ g8_1 from by have := f0_1.lt; have := h12_6.size; have := h12_10.size; have := h12_11.size; omega) (Option.some.inj h))).le d16)
          refine G.rd rfl rfl (.loadB (v := .int .i64 (((chgK (payW x legs).ls (legs.take k)).ix (((seatAt' (payW x legs).ls (legs.getD k noLeg).ch).p (legs.getD k noLeg).side.toNat).toNat)))) na3 rfl f19 (tri_at (chgK (payW x legs).ls (legs.take k)) (by have := hst.2 (legs.getD k noLeg).side.toNat; omega))) rfl rfl rfl ?_
          refine G.any rfl rfl (.field0 fa37_2 rfl) rfl rfl rfl ?_
          refine G.rd rfl rfl (.loadB (v := .int .i64 ((legs.getD k noLeg).am)) na3 rfl f17 rfl) rfl rfl rfl ?_
          refine G.any rfl rfl (.sub rfl rfl (by have := hcb ((seatAt' (payW x legs).ls (legs.getD k noLeg).ch).p (legs.getD k noLeg).side.toNat).toNat; omega)) rfl rfl rfl ?_
          refine G.any rfl rfl (.idxAo (((seatAt' (payW x legs).ls (legs.getD k noLeg).ch).p (legs.getD k noLeg).side.toNat).toNat) Try.underlying30 sz3 rfl rfl (by have := hst.2 (legs.getD k noLeg).side.toNat; omega) (by have := hst.2 (legs.getD k noLeg).side.toNat; omega)) rfl rfl rfl ?_
          refine G.ef0 rfl rfl rfl rfl ?_
          refine Ef.store sz3 rfl rfl f19 (by simp [triV_row.len, -List.getD_eq_getElem?_getD]; have := hst.2 (legs.getD k noLeg).side.toNat; omega) rfl ?_
          intro w16_16 b16_16 h16_16
          refine ⟨fun h => absurd h (ne_true_of_eq_false (by kernel_rfl)), ?_⟩
          have b16_16 : Blk w16_16 g8_1 30 (triV ((chgK (payW x legs).ls (legs.take k)).set (((seatAt' (payW x legs).ls (legs.getD k noLeg).ch).p (legs.getD k noLeg).side.toNat).toNat) (((chgK (payW x legs).ls (legs.take k)).ix (((seatAt' (payW x legs).ls (legs.getD k noLeg).ch).p (legs.getD k noLeg).side.toNat).toNat)) - ((legs.getD k noLeg).am)))).toArray := b16_16.cast (tri_set (chgK (payW x legs).ls (legs.take k)) (((chgK (payW x legs).ls (legs.take k)).ix (((seatAt' (payW x legs).ls (legs.getD k noLeg).ch).p (legs.getD k noLeg).side.toNat).toNat)) - ((legs.getD k noLeg).am)) (by have := hst.2 (legs.getD k noLeg).side.toNat; omega))
          have L20 : Le w w16_16 := L16.then_ h16_16 (fun q hq => by cases hq; exact Nat.le_trans L5.size hg8_1)
          refine G.nil ?_
          refine E.thenN ?_
          refine WC.draw [0, 1, 2, 3, 4, 5, 6, 7, 8, 9, 10, 11, 12, 13, 14, 15, 16, 17, 18] mixed (by kernel_rfl) ?_
          intro w17 d17
          have L21 := L20.trans d17
          refine G.any rfl rfl (.field0 fa37_1 rfl) rfl rfl rfl ?_
          have f22 := ((f17.ch h16_16 (fun h => (show g8_1 ≠ g13_4 from by have := f0_1.lt; have := h12_6.size; have := h12_10.size; have := h12_11.size; omega) (Option.some.inj h))).le d17)
          refine G.rd rfl rfl (.loadB (v := .int .i64 ((legs.getD k noLeg).side)) na3 rfl f22 rfl) rfl rfl rfl ?_
          refine G.any rfl rfl (.sub rfl rfl (by omega)) rfl rfl rfl ?_
          refine G.any rfl rfl (.field0 fa33_1 rfl) rfl rfl rfl ?_
          refine G.any rfl rfl (.idxAo ((1 - (legs.getD k noLeg).side).toNat) Try.underlying31 sz3 rfl rfl (by omega) (by omega)) rfl rfl rfl ?_
          have f23 := ((f18.ch h16_16 (fun h => (show g8_1 ≠ g12_10 from by have := f0_1.lt; have := h12_6.size; omega) (Option.some.inj h))).le d17)
          refine G.rd rfl rfl (.loadB (v := .int .i64 (((seatAt' (payW x legs).ls (legs.getD k noLeg).ch).p ((1 - (legs.getD k noLeg).side).toNat)))) na3 rfl f23 (seatP_at (seatAt' (payW x legs).ls (legs.getD k noLeg).ch) (by omega))) rfl rfl rfl ?_
          refine G.any rfl rfl (.field0 fa37_1 rfl) rfl rfl rfl ?_
          refine G.rd rfl rfl (.loadB (v := .int .i64 ((legs.getD k noLeg).side)) na3 rfl f22 rfl) rfl rfl rfl ?_
          refine G.any rfl rfl (.sub rfl rfl (by omega)) rfl rfl rfl ?_
          refine G.any rfl rfl (.field0 fa33_1 rfl) rfl rfl rfl ?_
          refine G.any rfl rfl (.idxAo ((1 - (legs.getD k noLeg).side).toNat) Try.underlying31 sz3 rfl rfl (by omega) (by omega)) rfl rfl rfl ?_
          refine G.rd rfl rfl (.loadB (v := .int .i64 (((seatAt' (payW x legs).ls (legs.getD k noLeg).ch).p ((1 - (legs.getD k noLeg).side).toNat)))) na3 rfl f23 (seatP_at (seatAt' (payW x legs).ls (legs.getD k noLeg).ch) (by omega))) rfl rfl rfl ?_
          refine G.any rfl rfl (.idxAo (((seatAt' (payW x legs).ls (legs.getD k noLeg).ch).p (1 - (legs.getD k noLeg).side).toNat).toNat) Try.underlying30 sz3 rfl rfl (by have := hst.2 ((1 - (legs.getD k noLeg).side).toNat); omega) (by have := hst.2 ((1 - (legs.getD k noLeg).side).toNat); omega)) rfl rfl rfl ?_
          have f24 := (b16_16.le d17)
          refine G.rd rfl rfl (.loadB (v := .int .i64 ((((chgK (payW x legs).ls (legs.take k)).set (((seatAt' (payW x legs).ls (legs.getD k noLeg).ch).p (legs.getD k noLeg).side.toNat).toNat) (((chgK (payW x legs).ls (legs.take k)).ix (((seatAt' (payW x legs).ls (legs.getD k noLeg).ch).p (legs.getD k noLeg).side.toNat).toNat)) - ((legs.getD k noLeg).am))).ix (((seatAt' (payW x legs).ls (legs.getD k noLeg).ch).p (1 - (legs.getD k noLeg).side).toNat).toNat)))) na3 rfl f24 (tri_at ((chgK (payW x legs).ls (legs.take k)).set (((seatAt' (payW x legs).ls (legs.getD k noLeg).ch).p (legs.getD k noLeg).side.toNat).toNat) (((chgK (payW x legs).ls (legs.take k)).ix (((seatAt' (payW x legs).ls (legs.getD k noLeg).ch).p (legs.getD k noLeg).side.toNat).toNat)) - ((legs.getD k noLeg).am))) (by have := hst.2 ((1 - (legs.getD k noLeg).side).toNat); omega))) rfl rfl rfl ?_
          refine G.any rfl rfl (.field0 fa37_2 rfl) rfl rfl rfl ?_
          refine G.rd rfl rfl (.loadB (v := .int .i64 ((legs.getD k noLeg).am)) na3 rfl f22 rfl) rfl rfl rfl ?_
          refine G.any rfl rfl (.add rfl rfl (by have := hmid ((seatAt' (payW x legs).ls (legs.getD k noLeg).ch).p (1 - (legs.getD k noLeg).side).toNat).toNat; omega)) rfl rfl rfl ?_
          refine G.any rfl rfl (.idxAo (((seatAt' (payW x legs).ls (legs.getD k noLeg).ch).p (1 - (legs.getD k noLeg).side).toNat).toNat) Try.underlying30 sz3 rfl rfl (by have := hst.2 ((1 - (legs.getD k noLeg).side).toNat); omega) (by have := hst.2 ((1 - (legs.getD k noLeg).side).toNat); omega)) rfl rfl rfl ?_
          refine G.ef0 rfl rfl rfl rfl ?_
          refine Ef.store sz3 rfl rfl f24 (by simp [triV_row.len, -List.getD_eq_getElem?_getD]; have := hst.2 ((1 - (legs.getD k noLeg).side).toNat); omega) rfl ?_
          intro w17_18 b17_18 h17_18
          refine ⟨fun h => absurd h (ne_true_of_eq_false (by kernel_rfl)), ?_⟩
          have b17_18 : Blk w17_18 g8_1 30 (triV (((chgK (payW x legs).ls (legs.take k)).set (((seatAt' (payW x legs).ls (legs.getD k noLeg).ch).p (legs.getD k noLeg).side.toNat).toNat) (((chgK (payW x legs).ls (legs.take k)).ix (((seatAt' (payW x legs).ls (legs.getD k noLeg).ch).p (legs.getD k noLeg).side.toNat).toNat)) - ((legs.getD k noLeg).am))).set (((seatAt' (payW x legs).ls (legs.getD k noLeg).ch).p (1 - (legs.getD k noLeg).side).toNat).toNat) ((((chgK (payW x legs).ls (legs.take k)).set (((seatAt' (payW x legs).ls (legs.getD k noLeg).ch).p (legs.getD k noLeg).side.toNat).toNat) (((chgK (payW x legs).ls (legs.take k)).ix (((seatAt' (payW x legs).ls (legs.getD k noLeg).ch).p (legs.getD k noLeg).side.toNat).toNat)) - ((legs.getD k noLeg).am))).ix (((seatAt' (payW x legs).ls (legs.getD k noLeg).ch).p (1 - (legs.getD k noLeg).side).toNat).toNat)) + ((legs.getD k noLeg).am)))).toArray := b17_18.cast (tri_set ((chgK (payW x legs).ls (legs.take k)).set (((seatAt' (payW x legs).ls (legs.getD k noLeg).ch).p (legs.getD k noLeg).side.toNat).toNat) (((chgK (payW x legs).ls (legs.take k)).ix (((seatAt' (payW x legs).ls (legs.getD k noLeg).ch).p (legs.getD k noLeg).side.toNat).toNat)) - ((legs.getD k noLeg).am))) ((((chgK (payW x legs).ls (legs.take k)).set (((seatAt' (payW x legs).ls (legs.getD k noLeg).ch).p (legs.getD k noLeg).side.toNat).toNat) (((chgK (payW x legs).ls (legs.take k)).ix (((seatAt' (payW x legs).ls (legs.getD k noLeg).ch).p (legs.getD k noLeg).side.toNat).toNat)) - ((legs.getD k noLeg).am))).ix (((seatAt' (payW x legs).ls (legs.getD k noLeg).ch).p (1 - (legs.getD k noLeg).side).toNat).toNat)) + ((legs.getD k noLeg).am)) (by have := hst.2 ((1 - (legs.getD k noLeg).side).toNat); omega))
          have L25 : Le w w17_18 := L21.then_ h17_18 (fun q hq => by cases hq; exact Nat.le_trans L5.size hg8_1)
          refine G.nil ?_
          refine E.blkN ?_
          refine E.thenN ?_
          refine WC.region ?_
          refine W.any (.move rfl) rfl rfl rfl ?_
          refine W.any (.add rfl rfl (by omega)) rfl rfl rfl ?_
          refine W.any (.assign rfl) rfl rfl rfl ?_
          refine W.nil ?_
          have f26 := ((((((((f0_0.le (h12_6.trans h12_10)).ch h12_11 (fun q hqq hF => by cases hqq; have := f0_0.lt hF; have := h12_6.size; have := hg12_10; omega)).le h13_4).ch h13_5 (fun q hqq hF => by cases hqq; have := f0_0.lt hF; have := h12_6.size; have := h12_10.size; have := h12_11.size; have := hg13_4; omega)).le d16).ch h16_16 (fun q hqq hF => by cases hqq; have := p7_2.lt hF;  have := hg8_1; omega)).le d17).ch h17_18 (fun q hqq hF => by cases hqq; have := p7_2.lt hF;  have := hg8_1; omega))
          refine E.again (k + 1) (.cons rfl (.cons rfl (.cons rfl (.cons rfl (.cons rfl (.cons rfl (.nil _))))))) ?_ ?_
          · exact ⟨by omega, L25, by have := zl0; have := h12_6.size; have := h12_10.size; have := h12_11.size; have := h13_4.size; have := h13_5.size; have := d16.size; have := h16_16.size; have := d17.size; have := h17_18.size; omega, f26, (b17_18.cast (by rw [chgK_next (by omega)]; rfl))⟩
          · first | omega | (simp only []; omega)
        · refine W.any (.dec (.move rfl) (decide_eq_false q10_4)) rfl rfl rfl ?_
          refine W.skip rfl rfl rfl (rfl) rfl rfl ?_
          refine W.skip rfl rfl rfl (rfl) rfl rfl ?_
          refine W.any (.pickF rfl rfl rfl) rfl rfl rfl ?_
          refine W.nil ?_
          refine E.thenN ?_
          refine WC.condF rfl ?_
          refine WC.exit ?_
          refine E.thenX ?_
          refine E.thenX ?_
          refine E.blkH ?_
          refine E.thenN ?_
          refine WC.seq ?_
          refine WC.seq ?_
          refine WC.region ?_
          refine W.any (.assign rfl) rfl rfl rfl ?_
          refine W.nil ?_
          refine E.thenN ?_
          refine WC.block ?_
          refine WC.loop (ι := Nat) (fun p => [(5, .bool true), (6, .pointer (some ⟨gp2_1, 0, none⟩)), (8, .pointer (some ⟨g8_1, 0, none⟩)), (13, .int .i64 (((p : Nat) : Int)))]) (fun p wl1 => (p ≤ 3) ∧ Le w wl1 ∧ wl0.heap.size ≤ wl1.heap.size ∧ LPool wl1 w1_0.heap.size gp2_1 F7_2 (payW x legs) ∧ Blk wl1 g8_1 30 (triV (chgK (payW x legs).ls (legs.take k))).toArray) (fun p => 3 - p) 0 ?_ ?_ ?_
          · exact .cons rfl (.cons rfl (.cons rfl (.cons rfl (.nil _))))
          · exact ⟨by omega, Ll0, Nat.le_refl _, f0_0, f0_1⟩
          · rintro p wl1 ⟨hp, Ll1, zl1, f1_0, f1_1⟩
            have hlt : p < 3 → worthL (payW x legs).own (payW x legs).ls (payW x legs).lh (p : Int) = 200000 + (chgK (payW x legs).ls (legs.take k)).ix p := fun hq => by rw [List.take_of_length_le (by omega)]; exact y3 p hq
            have hcb2 := hcb p
            refine WC.seq ?_
            refine WC.seq ?_
            refine WC.region ?_
            refine W.any (.move rfl) rfl rfl rfl ?_
            refine W.any (.lss rfl rfl) rfl rfl rfl ?_
            refine W.nil ?_
            refine E.thenN ?_
            by_cases c4 : ((p : Nat) : Int) < 3
            · refine WC.condY rfl (decide_eq_true c4) ?_
              refine WC.skip ?_
              refine E.thenN ?_
              refine WC.seq ?_
              refine WC.block ?_
              refine WC.seq ?_
              refine WC.draw [0, 1, 3, 4, 5, 6, 2, 7, 8, 9, 10, 11, 12, 13] mixed (by kernel_rfl) ?_
              intro w21 d21
              have L27 := Ll1.trans d21
              refine G.any rfl rfl (.move rfl) rfl rfl rfl ?_
              refine G.any rfl rfl (.move rfl) rfl rfl rfl ?_
              refine G.any rfl rfl (.move rfl) rfl rfl rfl ?_
              refine G.any rfl rfl (.idxAo (p) Try.underlying30 sz3 rfl rfl (rfl) (by omega)) rfl rfl rfl ?_
              have f28 := (f1_1.le d21)
              refine G.rd rfl rfl (.loadB (v := .int .i64 (((chgK (payW x legs).ls (legs.take k)).ix p))) na3 rfl f28 (tri_at (chgK (payW x legs).ls (legs.take k)) (by omega))) rfl rfl rfl ?_
              refine G.any rfl rfl (.add rfl rfl (by omega)) rfl rfl rfl ?_
              have f29 := (f1_0.le d21)
              refine G.ef rfl rfl rfl rfl rfl ?_
              refine Ef.call go15 rfl rfl ((by have h := worth_led (s := (payW x legs)) ((p : Nat) : Int) f29; rw [hlt (by omega)] at h; exact h)) ?_
              rintro _ w21_2 ⟨rfl, h21_2⟩
              refine ⟨_, rfl, ?_⟩
              refine ⟨fun _ => h21_2, ?_⟩
              have L30 := L27.trans h21_2
              refine G.any rfl rfl (.dec (.neq rfl rfl) (decide_eq_false (by omega))) rfl rfl rfl ?_
              refine G.any rfl rfl (.move rfl) rfl rfl rfl ?_
              refine G.anyg rfl rfl (.move rfl) rfl rfl rfl (rfl) rfl rfl ?_
              refine G.anyg rfl rfl (.move rfl) rfl rfl rfl (rfl) rfl rfl ?_
              have f31 := (f29.le h21_2)
              refine G.efg rfl rfl rfl rfl rfl (rfl) rfl rfl ?_
              refine Ef.call go16 rfl rfl (own_led (s := (payW x legs)) ((p : Nat) : Int) f31) ?_
              rintro _ w21_11 ⟨rfl, h21_11⟩
              refine ⟨_, rfl, ?_⟩
              refine ⟨fun _ => h21_11, ?_⟩
              have L32 := L30.trans h21_11
              refine G.anyg rfl rfl (.dec (.gtr rfl rfl) (decide_eq_false (by have := payW_own x legs p; omega))) rfl rfl rfl (rfl) rfl rfl ?_
              refine G.any rfl rfl (.pickF rfl rfl rfl) rfl rfl rfl ?_
              refine G.nil ?_
              refine E.thenN ?_
              refine WC.condF rfl ?_
              refine WC.skip ?_
              refine E.blkN ?_
              refine E.thenN ?_
              refine WC.region ?_
              refine W.any (.move rfl) rfl rfl rfl ?_
              refine W.any (.add rfl rfl (by omega)) rfl rfl rfl ?_
              refine W.any (.assign rfl) rfl rfl rfl ?_
              refine W.nil ?_
              have f33 := (f31.le h21_11)
              have f34 := (f28.le (h21_2.trans h21_11))
              refine E.again (p + 1) (.cons rfl (.cons rfl (.cons rfl (.cons rfl (.nil _))))) ?_ ?_
              · exact ⟨by omega, L32, by have := zl1; have := d21.size; have := h21_2.size; have := h21_11.size; omega, f33, f34⟩
              · first | omega | (simp only []; omega)
            · refine WC.condN rfl (decide_eq_false c4) ?_
              refine WC.exit ?_
              refine E.thenX ?_
              refine E.thenX ?_
              refine E.blkH ?_
              refine E.thenN ?_
              refine WC.seq ?_
              refine WC.region ?_
              refine W.any (.move rfl) rfl rfl rfl ?_
              refine W.any (.move rfl) rfl rfl rfl ?_
              refine W.rdg (Any.rd (.move rfl) _) rfl rfl rfl (rfl) rfl rfl ?_
              refine W.efg rfl rfl rfl (rfl) rfl rfl ?_
              refine Ef.call go17 rfl rfl ((by have h := lost_led (s := (payW x legs)) f1_0; rw [payW_lost x legs] at h; exact h)) ?_
              rintro _ w23_3 ⟨rfl, h23_3⟩
              refine ⟨_, rfl, ?_⟩
              have L35 := Ll1.trans h23_3
              refine W.rdg (Any.rd (.dec (.eql rfl rfl) (show _ = true from by first | decide | rfl)) _) rfl rfl rfl (rfl) rfl rfl ?_
              refine W.any (.pickT rfl rfl rfl) rfl rfl rfl ?_
              refine W.any (.assign rfl) rfl rfl rfl ?_
              refine W.nil ?_
              refine E.thenN ?_
              refine WC.ret ?_
              refine E.retG1 rfl rfl ?_
              exact ⟨rfl, L35⟩
    · have y5 : ∀ p : Nat, p < 3 → worthL (payW x legs).own (payW x legs).ls (payW x legs).lh (p : Int) = 200000 := by rw [payW_no qc8_0]; exact fun p hp => wS_worth hp
      refine W.any (.buildA (cells := (triV noTri).toArray) Try.underlying30 sz3 z30 rfl rfl) rfl rfl rfl ?_
      refine W.ef rfl rfl rfl ?_
      refine Ef.allocA z30 ?_
      intro g8_1_1 w8_1_1 hg8_1_1 b8_1_1 h8_1_1
      have L36 := L5.trans h8_1_1
      have b8_1_1 : Blk w8_1_1 g8_1_1 30 (triV noTri).toArray := b8_1_1
      refine W.ef0 rfl rfl ?_
      refine Ef.storeAll sz30 (by rfl) rfl rfl b8_1_1 (by rfl) (triV_row.one noTri) ?_
      intro w8_2_1 b8_2_1 h8_2_1
      have b8_2_1 : Blk w8_2_1 g8_1_1 30 (triV noTri).toArray := b8_2_1
      have L37 : Le w w8_2_1 := L36.then_ h8_2_1 (fun q hq => by cases hq; exact Nat.le_trans L5.size hg8_1_1)
      refine W.nil ?_
      refine E.thenN ?_
      refine WC.seq ?_
      refine WC.seq ?_
      refine WC.region ?_
      refine W.any (.assign rfl) rfl rfl rfl ?_
      refine W.nil ?_
      refine E.thenN ?_
      refine WC.block ?_
      have f38 := ((p7_2.le h8_1_1).ch h8_2_1 (fun q hqq hF => by cases hqq; have := p7_2.lt hF;  have := hg8_1_1; omega))
      refine WC.loop (ι := Unit) (fun u => [(1, .slice Al nl cl), (5, .bool true), (6, .pointer (some ⟨gp2_1, 0, none⟩)), (7, .int .i64 ((payL (wS x) legs).2)), (8, .pointer (some ⟨g8_1_1, 0, none⟩)), (9, .int .i64 (0))]) (fun u wl0 => Le w wl0 ∧ w8_2_1.heap.size ≤ wl0.heap.size ∧ LPool wl0 w1_0.heap.size gp2_1 F7_2 (payW x legs) ∧ Blk wl0 g8_1_1 30 (triV noTri).toArray) (fun u => 0) () ?_ ?_ ?_
      · exact .cons rfl (.cons rfl (.cons rfl (.cons rfl (.cons rfl (.cons rfl (.nil _))))))
      · exact ⟨L37, Nat.le_refl _, f38, b8_2_1⟩
      · rintro u wl0 ⟨Ll0, zl0, f0_0, f0_1⟩
        refine WC.seq ?_
        refine WC.seq ?_
        refine WC.region ?_
        refine W.any (.move rfl) rfl rfl rfl ?_
        refine W.any (.move rfl) rfl rfl rfl ?_
        refine W.rd (.len Try.underlying24 rfl) rfl rfl rfl ?_
        refine W.any (.lss rfl rfl) rfl rfl rfl ?_
        by_cases q10_4 : 0 < ((nl : Nat) : Int)
        · refine W.any (.dec (.move rfl) (decide_eq_true q10_4)) rfl rfl rfl ?_
          refine W.rdg (Any.rd (.move rfl) _) rfl rfl rfl (rfl) rfl rfl ?_
          refine W.rdg (Any.rd (.eql rfl rfl) _) rfl rfl rfl (rfl) rfl rfl ?_
          refine W.any (.pickT rfl rfl rfl) rfl rfl rfl ?_
          refine W.nil ?_
          refine E.thenN ?_
          refine WC.condN rfl (decide_eq_false qc8_0) ?_
          refine WC.exit ?_
          refine E.thenX ?_
          refine E.thenX ?_
          refine E.blkH ?_
          refine E.thenN ?_
          refine WC.seq ?_
          refine WC.seq ?_
          refine WC.region ?_
          refine W.any (.assign rfl) rfl rfl rfl ?_
          refine W.nil ?_
          refine E.thenN ?_
          refine WC.block ?_
          refine WC.loop (ι := Nat) (fun p => [(5, .bool true), (6, .pointer (some ⟨gp2_1, 0, none⟩)), (8, .pointer (some ⟨g8_1_1, 0, none⟩)), (13, .int .i64 (((p : Nat) : Int)))]) (fun p wl1 => (p ≤ 3) ∧ Le w wl1 ∧ wl0.heap.size ≤ wl1.heap.size ∧ LPool wl1 w1_0.heap.size gp2_1 F7_2 (payW x legs) ∧ Blk wl1 g8_1_1 30 (triV noTri).toArray) (fun p => 3 - p) 0 ?_ ?_ ?_
          · exact .cons rfl (.cons rfl (.cons rfl (.cons rfl (.nil _))))
          · exact ⟨by omega, Ll0, Nat.le_refl _, f0_0, f0_1⟩
          · rintro p wl1 ⟨hp, Ll1, zl1, f1_0, f1_1⟩
            have hz : (noTri).ix p = 0 := by simp [Tri.ix, noTri]
            have hlt : p < 3 → worthL (payW x legs).own (payW x legs).ls (payW x legs).lh (p : Int) = 200000 := y5 p
            refine WC.seq ?_
            refine WC.seq ?_
            refine WC.region ?_
            refine W.any (.move rfl) rfl rfl rfl ?_
            refine W.any (.lss rfl rfl) rfl rfl rfl ?_
            refine W.nil ?_
            refine E.thenN ?_
            by_cases c4 : ((p : Nat) : Int) < 3
            · refine WC.condY rfl (decide_eq_true c4) ?_
              refine WC.skip ?_
              refine E.thenN ?_
              refine WC.seq ?_
              refine WC.block ?_
              refine WC.seq ?_
              refine WC.draw [0, 1, 3, 4, 5, 6, 2, 7, 8, 9, 10, 11, 12, 13] mixed (by kernel_rfl) ?_
              intro w21 d21
              have L39 := Ll1.trans d21
              refine G.any rfl rfl (.move rfl) rfl rfl rfl ?_
              refine G.any rfl rfl (.move rfl) rfl rfl rfl ?_
              refine G.any rfl rfl (.move rfl) rfl rfl rfl ?_
              refine G.any rfl rfl (.idxAo (p) Try.underlying30 sz3 rfl rfl (rfl) (by omega)) rfl rfl rfl ?_
              have f40 := (f1_1.le d21)
              refine G.rd rfl rfl (.loadB (v := .int .i64 ((noTri.ix p))) na3 rfl f40 (tri_at noTri (by omega))) rfl rfl rfl ?_
              refine G.any rfl rfl (.add rfl rfl (by omega)) rfl rfl rfl ?_
              have f41 := (f1_0.le d21)
              refine G.ef rfl rfl rfl rfl rfl ?_
              refine Ef.call go15 rfl rfl ((by have h := worth_led (s := (payW x legs)) ((p : Nat) : Int) f41; rw [hlt (by omega)] at h; exact h)) ?_
              rintro _ w21_2_1 ⟨rfl, h21_2_1⟩
              refine ⟨_, rfl, ?_⟩
              refine ⟨fun _ => h21_2_1, ?_⟩
              have L42 := L39.trans h21_2_1
              refine G.any rfl rfl (.dec (.neq rfl rfl) (decide_eq_false (by omega))) rfl rfl rfl ?_
              refine G.any rfl rfl (.move rfl) rfl rfl rfl ?_
              refine G.anyg rfl rfl (.move rfl) rfl rfl rfl (rfl) rfl rfl ?_
              refine G.anyg rfl rfl (.move rfl) rfl rfl rfl (rfl) rfl rfl ?_
              have f43 := (f41.le h21_2_1)
              refine G.efg rfl rfl rfl rfl rfl (rfl) rfl rfl ?_
              refine Ef.call go16 rfl rfl (own_led (s := (payW x legs)) ((p : Nat) : Int) f43) ?_
              rintro _ w21_11_1 ⟨rfl, h21_11_1⟩
              refine ⟨_, rfl, ?_⟩
              refine ⟨fun _ => h21_11_1, ?_⟩
              have L44 := L42.trans h21_11_1
              refine G.anyg rfl rfl (.dec (.gtr rfl rfl) (decide_eq_false (by have := payW_own x legs p; omega))) rfl rfl rfl (rfl) rfl rfl ?_
              refine G.any rfl rfl (.pickF rfl rfl rfl) rfl rfl rfl ?_
              refine G.nil ?_
              refine E.thenN ?_
              refine WC.condF rfl ?_
              refine WC.skip ?_
              refine E.blkN ?_
              refine E.thenN ?_
              refine WC.region ?_
              refine W.any (.move rfl) rfl rfl rfl ?_
              refine W.any (.add rfl rfl (by omega)) rfl rfl rfl ?_
              refine W.any (.assign rfl) rfl rfl rfl ?_
              refine W.nil ?_
              have f45 := (f43.le h21_11_1)
              have f46 := (f40.le (h21_2_1.trans h21_11_1))
              refine E.again (p + 1) (.cons rfl (.cons rfl (.cons rfl (.cons rfl (.nil _))))) ?_ ?_
              · exact ⟨by omega, L44, by have := zl1; have := d21.size; have := h21_2_1.size; have := h21_11_1.size; omega, f45, f46⟩
              · first | omega | (simp only []; omega)
            · refine WC.condN rfl (decide_eq_false c4) ?_
              refine WC.exit ?_
              refine E.thenX ?_
              refine E.thenX ?_
              refine E.blkH ?_
              refine E.thenN ?_
              refine WC.seq ?_
              refine WC.region ?_
              refine W.any (.move rfl) rfl rfl rfl ?_
              refine W.any (.move rfl) rfl rfl rfl ?_
              refine W.rdg (Any.rd (.move rfl) _) rfl rfl rfl (rfl) rfl rfl ?_
              refine W.efg rfl rfl rfl (rfl) rfl rfl ?_
              refine Ef.call go17 rfl rfl ((by have h := lost_led (s := (payW x legs)) f1_0; rw [payW_lost x legs] at h; exact h)) ?_
              rintro _ w23_3_1 ⟨rfl, h23_3_1⟩
              refine ⟨_, rfl, ?_⟩
              have L47 := Ll1.trans h23_3_1
              refine W.rdg (Any.rd (.dec (.eql rfl rfl) (show _ = true from by first | decide | rfl)) _) rfl rfl rfl (rfl) rfl rfl ?_
              refine W.any (.pickT rfl rfl rfl) rfl rfl rfl ?_
              refine W.any (.assign rfl) rfl rfl rfl ?_
              refine W.nil ?_
              refine E.thenN ?_
              refine WC.ret ?_
              refine E.retG1 rfl rfl ?_
              exact ⟨rfl, L47⟩
        · refine W.any (.dec (.move rfl) (decide_eq_false q10_4)) rfl rfl rfl ?_
          refine W.skip rfl rfl rfl (rfl) rfl rfl ?_
          refine W.skip rfl rfl rfl (rfl) rfl rfl ?_
          refine W.any (.pickF rfl rfl rfl) rfl rfl rfl ?_
          refine W.nil ?_
          refine E.thenN ?_
          refine WC.condF rfl ?_
          refine WC.exit ?_
          refine E.thenX ?_
          refine E.thenX ?_
          refine E.blkH ?_
          refine E.thenN ?_
          refine WC.seq ?_
          refine WC.seq ?_
          refine WC.region ?_
          refine W.any (.assign rfl) rfl rfl rfl ?_
          refine W.nil ?_
          refine E.thenN ?_
          refine WC.block ?_
          refine WC.loop (ι := Nat) (fun p => [(5, .bool true), (6, .pointer (some ⟨gp2_1, 0, none⟩)), (8, .pointer (some ⟨g8_1_1, 0, none⟩)), (13, .int .i64 (((p : Nat) : Int)))]) (fun p wl1 => (p ≤ 3) ∧ Le w wl1 ∧ wl0.heap.size ≤ wl1.heap.size ∧ LPool wl1 w1_0.heap.size gp2_1 F7_2 (payW x legs) ∧ Blk wl1 g8_1_1 30 (triV noTri).toArray) (fun p => 3 - p) 0 ?_ ?_ ?_
          · exact .cons rfl (.cons rfl (.cons rfl (.cons rfl (.nil _))))
          · exact ⟨by omega, Ll0, Nat.le_refl _, f0_0, f0_1⟩
          · rintro p wl1 ⟨hp, Ll1, zl1, f1_0, f1_1⟩
            have hz : (noTri).ix p = 0 := by simp [Tri.ix, noTri]
            have hlt : p < 3 → worthL (payW x legs).own (payW x legs).ls (payW x legs).lh (p : Int) = 200000 := y5 p
            refine WC.seq ?_
            refine WC.seq ?_
            refine WC.region ?_
            refine W.any (.move rfl) rfl rfl rfl ?_
            refine W.any (.lss rfl rfl) rfl rfl rfl ?_
            refine W.nil ?_
            refine E.thenN ?_
            by_cases c4 : ((p : Nat) : Int) < 3
            · refine WC.condY rfl (decide_eq_true c4) ?_
              refine WC.skip ?_
              refine E.thenN ?_
              refine WC.seq ?_
              refine WC.block ?_
              refine WC.seq ?_
              refine WC.draw [0, 1, 3, 4, 5, 6, 2, 7, 8, 9, 10, 11, 12, 13] mixed (by kernel_rfl) ?_
              intro w21 d21
              have L48 := Ll1.trans d21
              refine G.any rfl rfl (.move rfl) rfl rfl rfl ?_
              refine G.any rfl rfl (.move rfl) rfl rfl rfl ?_
              refine G.any rfl rfl (.move rfl) rfl rfl rfl ?_
              refine G.any rfl rfl (.idxAo (p) Try.underlying30 sz3 rfl rfl (rfl) (by omega)) rfl rfl rfl ?_
              have f49 := (f1_1.le d21)
              refine G.rd rfl rfl (.loadB (v := .int .i64 ((noTri.ix p))) na3 rfl f49 (tri_at noTri (by omega))) rfl rfl rfl ?_
              refine G.any rfl rfl (.add rfl rfl (by omega)) rfl rfl rfl ?_
              have f50 := (f1_0.le d21)
              refine G.ef rfl rfl rfl rfl rfl ?_
              refine Ef.call go15 rfl rfl ((by have h := worth_led (s := (payW x legs)) ((p : Nat) : Int) f50; rw [hlt (by omega)] at h; exact h)) ?_
              rintro _ w21_2_2 ⟨rfl, h21_2_2⟩
              refine ⟨_, rfl, ?_⟩
              refine ⟨fun _ => h21_2_2, ?_⟩
              have L51 := L48.trans h21_2_2
              refine G.any rfl rfl (.dec (.neq rfl rfl) (decide_eq_false (by omega))) rfl rfl rfl ?_
              refine G.any rfl rfl (.move rfl) rfl rfl rfl ?_
              refine G.anyg rfl rfl (.move rfl) rfl rfl rfl (rfl) rfl rfl ?_
              refine G.anyg rfl rfl (.move rfl) rfl rfl rfl (rfl) rfl rfl ?_
              have f52 := (f50.le h21_2_2)
              refine G.efg rfl rfl rfl rfl rfl (rfl) rfl rfl ?_
              refine Ef.call go16 rfl rfl (own_led (s := (payW x legs)) ((p : Nat) : Int) f52) ?_
              rintro _ w21_11_2 ⟨rfl, h21_11_2⟩
              refine ⟨_, rfl, ?_⟩
              refine ⟨fun _ => h21_11_2, ?_⟩
              have L53 := L51.trans h21_11_2
              refine G.anyg rfl rfl (.dec (.gtr rfl rfl) (decide_eq_false (by have := payW_own x legs p; omega))) rfl rfl rfl (rfl) rfl rfl ?_
              refine G.any rfl rfl (.pickF rfl rfl rfl) rfl rfl rfl ?_
              refine G.nil ?_
              refine E.thenN ?_
              refine WC.condF rfl ?_
              refine WC.skip ?_
              refine E.blkN ?_
              refine E.thenN ?_
              refine WC.region ?_
              refine W.any (.move rfl) rfl rfl rfl ?_
              refine W.any (.add rfl rfl (by omega)) rfl rfl rfl ?_
              refine W.any (.assign rfl) rfl rfl rfl ?_
              refine W.nil ?_
              have f54 := (f52.le h21_11_2)
              have f55 := (f49.le (h21_2_2.trans h21_11_2))
              refine E.again (p + 1) (.cons rfl (.cons rfl (.cons rfl (.cons rfl (.nil _))))) ?_ ?_
              · exact ⟨by omega, L53, by have := zl1; have := d21.size; have := h21_2_2.size; have := h21_11_2.size; omega, f54, f55⟩
              · first | omega | (simp only []; omega)
            · refine WC.condN rfl (decide_eq_false c4) ?_
              refine WC.exit ?_
              refine E.thenX ?_
              refine E.thenX ?_
              refine E.blkH ?_
              refine E.thenN ?_
              refine WC.seq ?_
              refine WC.region ?_
              refine W.any (.move rfl) rfl rfl rfl ?_
              refine W.any (.move rfl) rfl rfl rfl ?_
              refine W.rdg (Any.rd (.move rfl) _) rfl rfl rfl (rfl) rfl rfl ?_
              refine W.efg rfl rfl rfl (rfl) rfl rfl ?_
              refine Ef.call go17 rfl rfl ((by have h := lost_led (s := (payW x legs)) f1_0; rw [payW_lost x legs] at h; exact h)) ?_
              rintro _ w23_3_2 ⟨rfl, h23_3_2⟩
              refine ⟨_, rfl, ?_⟩
              have L56 := Ll1.trans h23_3_2
              refine W.rdg (Any.rd (.dec (.eql rfl rfl) (show _ = true from by first | decide | rfl)) _) rfl rfl rfl (rfl) rfl rfl ?_
              refine W.any (.pickT rfl rfl rfl) rfl rfl rfl ?_
              refine W.any (.assign rfl) rfl rfl rfl ?_
              refine W.nil ?_
              refine E.thenN ?_
              refine WC.ret ?_
              refine E.retG1 rfl rfl ?_
              exact ⟨rfl, L56⟩
end Go.Proofs.Ytnmcbdbpafhinaa

