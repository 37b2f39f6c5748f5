/- LedgerHolds: for every input the law answers true and leaves its arguments as they were. -/
import Derived.Test.YtnmcbdbpafhinaaLedgerHoldsL
import Derived.OrdersHeld
import Derived.WalkKit
import Derived.Deep.AppendSrc
import Derived.Deep.MidRow
import Derived.Laws.OwnMore
import Derived.WalkSpells
import Derived.Lib.ConvBytes
import Derived.Lib.AppendZerosOnto
import Derived.Laws.StructEq
import Derived.Maps.RangeRun
import Derived.Laws.Pointers
import Derived.Test.YtnmcbdbpafhinaaProg
import Derived.KernelRfl
import Derived.Lib.Mul64
import Derived.Shelf.SlIterI.Nil
import Derived.Shelf.SortM.Plain
import Derived.Shelf.SortM.SortNone
import Derived.Ground.GgzProg
import Derived.Ground.SlgmProg
namespace Go.Proofs.Ytnmcbdbpafhinaa
open Go Go.Sx Go.Num Go.Gsp Go.Lsp
set_option maxRecDepth 20000
set_option linter.unusedSimpArgs false
set_option linter.unusedVariables false
theorem eqv_pairV {d : Nat} (a b : Pair) : Eqv Try.prog (d + 2) 31 (.agg (pairV a).toArray) (.agg (pairV b).toArray) (decide (a = b)) := by
  have h := Eqv.arr (P := Try.prog) (d := d + 1) (xs := (pairV a).toArray) (ys := (pairV b).toArray) (fun i => decide (a.ix i = b.ix i)) (fun i => .int .i64 (a.ix i)) (fun i => .int .i64 (b.ix i)) Try.underlying31 sz3 (fun i hi w => run_part1 na3 (by rw [Nat.mul_one]; exact pair_ix a hi) w) (fun i hi w => run_part1 na3 (by rw [Nat.mul_one]; exact pair_ix b hi) w) (fun i hi => Eqv.int (P := Try.prog) _ _ Try.underlying3)
  have e : ((List.range 2).all fun i => decide (a.ix i = b.ix i)) = decide (a = b) := by
    obtain ⟨a1, a2⟩ := a
    obtain ⟨b1, b2⟩ := b
    rw [Bool.eq_iff_iff]
    simp [List.range_succ, Pair.ix]
  rw [e] at h
  exact h
theorem seat_pairs (a : Seat) : ((seatV a).drop 1).take 2 = pairV ⟨a.p0, a.p1⟩ ∧ ((seatV a).drop 3).take 2 = pairV ⟨a.h0, a.h1⟩ := ⟨rfl, rfl⟩
theorem eqv_seatV {d : Nat} (a b : Seat) : Eqv Try.prog (d + 3) 33 (.agg (seatV a).toArray) (.agg (seatV b).toArray) (decide (a = b)) := by
  have h := Eqv.struct (P := Try.prog) (d := d + 2) (t := 33) (seatV a).toArray (seatV b).toArray [(0, .int .i64 a.ch, .int .i64 b.ch, decide (a.ch = b.ch)), (1, .agg (pairV ⟨a.p0, a.p1⟩).toArray, .agg (pairV ⟨b.p0, b.p1⟩).toArray, decide ((⟨a.p0, a.p1⟩ : Pair) = ⟨b.p0, b.p1⟩)), (3, .agg (pairV ⟨a.h0, a.h1⟩).toArray, .agg (pairV ⟨b.h0, b.h1⟩).toArray, decide ((⟨a.h0, a.h1⟩ : Pair) = ⟨b.h0, b.h1⟩))] (by kernel_rfl) (by kernel_rfl) (by
    rw [show (Try.prog.fieldsOf 33) = _ from (by unfold Program.fieldsOf; rw [Try.underlying33])]
    exact ⟨by decide, rfl, fun w => run_part1 na3 rfl w, fun w => run_part1 na3 rfl w, Eqv.int (P := Try.prog) _ _ Try.underlying3,
      by decide, rfl, fun w => run_partA _ ag31 rfl (seat_pairs a).1 w, fun w => run_partA _ ag31 rfl (seat_pairs b).1 w, eqv_pairV _ _,
      by decide, rfl, fun w => run_partA _ ag31 rfl (seat_pairs a).2 w, fun w => run_partA _ ag31 rfl (seat_pairs b).2 w, eqv_pairV _ _, trivial⟩)
  have e : (([(0, .int .i64 a.ch, .int .i64 b.ch, decide (a.ch = b.ch)), (1, .agg (pairV ⟨a.p0, a.p1⟩).toArray, .agg (pairV ⟨b.p0, b.p1⟩).toArray, decide ((⟨a.p0, a.p1⟩ : Pair) = ⟨b.p0, b.p1⟩)), (3, .agg (pairV ⟨a.h0, a.h1⟩).toArray, .agg (pairV ⟨b.h0, b.h1⟩).toArray, decide ((⟨a.h0, a.h1⟩ : Pair) = ⟨b.h0, b.h1⟩))] : List (Nat × Value × Value × Bool)).all fun k => k.2.2.2) = decide (a = b) := by
    obtain ⟨a1, a2, a3, a4, a5⟩ := a
    obtain ⟨b1, b2, b3, b4, b5⟩ := b
    rw [Bool.eq_iff_iff]
    simp
    intro _
    constructor
    · rintro ⟨⟨h2, h3⟩, h4, h5⟩; exact ⟨h2, h3, h4, h5⟩
    · rintro ⟨h2, h3, h4, h5⟩; exact ⟨⟨h2, h3⟩, h4, h5⟩
  rw [e] at h
  exact h
namespace S46
def s0 : Led := ⟨[100, 100, 50], [], 0, [], 0, 0⟩
def s1 : Led := (openL s0 (⟨3, 0, 1, 60, 0⟩ : Seat) 5).1
theorem e1 : openL s0 (⟨3, 0, 1, 60, 0⟩ : Seat) 5 = (s1, 0) := by decide +kernel
theorem e2 : openL s1 (⟨3, 1, 2, 0, 0⟩ : Seat) 0 = (s1, 4) := by decide +kernel
theorem e3 : openL s1 (⟨4, 0, 1, 36, 0⟩ : Seat) 0 = (s1, 8) := by decide +kernel
theorem e4 : ownL s1.own 0 = 35 := by decide +kernel
theorem e5 : worthL s1.own s1.ls s1.lh 0 = 95 := by decide +kernel
def s6 : Led := (offerL s1 3 0 1 40 16).1
theorem e6 : offerL s1 3 0 1 40 16 = (s6, 0) := by decide +kernel
theorem e7 : heldL s6.lh 3 0 = 40 := by decide +kernel
theorem e8 : worthL s6.own s6.ls s6.lh 0 = 95 := by decide +kernel
theorem e9 : closeL s6 3 (⟨0, 0⟩ : Pair) = (s6, 14) := by decide +kernel
theorem e10 : settleL s6 3 0 1 3 = (s6, 23) := by decide +kernel
def s11 : Led := (settleL s6 3 0 1 2).1
theorem e11 : settleL s6 3 0 1 2 = (s11, 0) := by decide +kernel
theorem e12 : worthL s11.own s11.ls s11.lh 1 = 140 := by decide +kernel
theorem e13 : failL s11 3 0 1 = (s11, 5) := by decide +kernel
def s14 : Led := (openL s11 (⟨7, 1, 2, 30, 10⟩ : Seat) 0).1
theorem e14 : openL s11 (⟨7, 1, 2, 30, 10⟩ : Seat) 0 = (s14, 0) := by decide +kernel
def s15 : Led := (payL s14 [(⟨3, 0, 12⟩ : Leg), (⟨7, 0, 11⟩ : Leg)]).1
theorem e15 : payL s14 [(⟨3, 0, 12⟩ : Leg), (⟨7, 0, 11⟩ : Leg)] = (s15, 0) := by decide +kernel
theorem e16 : worthL s15.own s15.ls s15.lh 2 = 61 := by decide +kernel
theorem e17 : payL s15 [(⟨3, 0, 1⟩ : Leg), (⟨7, 0, 99⟩ : Leg)] = (s15, 8) := by decide +kernel
theorem e18 : worthL s15.own s15.ls s15.lh 0 = 43 := by decide +kernel
def s19 : Led := (cutL s15 [3, 7] [(⟨3, 0, 2, 8, 21⟩ : Seat), (⟨9, 1, 0, 70, 0⟩ : Seat)] [0, 1, 0]).1
theorem e19 : cutL s15 [3, 7] [(⟨3, 0, 2, 8, 21⟩ : Seat), (⟨9, 1, 0, 70, 0⟩ : Seat)] [0, 1, 0] = (s19, 0) := by decide +kernel
def s20 : Led := (spliceL s19 9 (⟨(-20), 30⟩ : Pair) (⟨2, 0⟩ : Pair)).1
theorem e20 : spliceL s19 9 (⟨(-20), 30⟩ : Pair) (⟨2, 0⟩ : Pair) = (s20, 0) := by decide +kernel
theorem e21 : ownL s20.own 1 = 88 := by decide +kernel
theorem e22 : ownL s20.own 0 = 5 := by decide +kernel
theorem f1 : seatAt' s20.ls 9 = ⟨9, 1, 0, 50, 30⟩ := by decide +kernel
theorem f2 : (getG 9 s20.ls).isSome = true := by decide +kernel
theorem f3 : (seatsL s20.ls).length = 2 := by decide +kernel
theorem f4 : s20.all - s20.lost = 242 := by decide +kernel
theorem f5 : s20.lost = 8 := by decide +kernel
end S46
open S46
theorem small46_ok (w : World) : Calls Try.prog 11 #[] w fun r w' => r = .returned (.bool true) ∧ Le w w' := by
  refine enter Try.func11 rfl rfl ?_
  have L0 := Le.refl w
  refine WC.seq ?_
  refine WC.region ?_
  refine W.any (.assign rfl) rfl rfl rfl ?_
  refine W.nil ?_
  refine E.thenN ?_
  refine WC.seq ?_
  refine WC.region ?_
  refine W.ef rfl rfl rfl ?_
  refine Ef.buildSliceV (len := 3) [_, _, _] Try.underlying41 el3 rfl (by simp [Value.cells]) rfl (by decide) (by decide) ?_
  intro g1_0 w1_0 hg1_0 b1_0 h1_0
  have L1 := L0.trans h1_0
  have b1_0 : Blk w1_0 g1_0 3 (([100, 100, 50]).map iv).flatten.toArray := b1_0
  have o1_0 : OVec w1_0 w.heap.size 3 iv 1 (some ⟨g1_0, 0, none⟩) 3 3 ([100, 100, 50]) := b1_0.ovec hg1_0 iv_row rfl rfl (by decide)
  refine W.ef rfl rfl rfl ?_
  refine Ef.call go18 rfl rfl (new_led w1_0 o1_0.vec (by decide)) ?_
  rintro _ w1_1 ⟨gp1_1, F1_1, rfl, p1_1, h1_1⟩
  refine ⟨_, rfl, ?_⟩
  have L2 := L1.trans h1_1
  refine W.any (.assign rfl) rfl rfl rfl ?_
  refine W.nil ?_
  refine E.thenN ?_
  refine WC.seq ?_
  refine WC.seq ?_
  refine WC.region ?_
  refine W.any (.move rfl) rfl rfl rfl ?_
  refine W.any (.dec (.isNilP (by kernel_rfl) rfl) rfl) rfl rfl rfl ?_
  refine W.any (.move rfl) rfl rfl rfl ?_
  refine W.efg rfl rfl rfl (rfl) rfl rfl ?_
  refine Ef.call go18 rfl rfl (new_none w1_1 (Vec.nil _ _ _ _) (by decide)) ?_
  rintro _ w2_3 ⟨rfl, h2_3⟩
  refine ⟨_, rfl, ?_⟩
  have L3 := L2.trans h2_3
  refine W.rdg (Any.rd (.dec (.notNilP (by kernel_rfl) rfl) rfl) _) rfl rfl rfl (rfl) rfl rfl ?_
  refine W.any (.pickF rfl rfl rfl) rfl rfl rfl ?_
  refine W.any (.move rfl) rfl rfl rfl ?_
  refine W.efg rfl rfl rfl (rfl) rfl rfl ?_
  refine Ef.buildSliceV (len := 2) [_, _] Try.underlying41 el3 rfl (by simp [Value.cells]) rfl (by decide) (by decide) ?_
  intro g2_7 w2_7 hg2_7 b2_7 h2_7
  have L4 := L3.trans h2_7
  have b2_7 : Blk w2_7 g2_7 3 (([1125899906842624, 1]).map iv).flatten.toArray := b2_7
  have o2_7 : OVec w2_7 w2_3.heap.size 3 iv 1 (some ⟨g2_7, 0, none⟩) 2 2 ([1125899906842624, 1]) := b2_7.ovec hg2_7 iv_row rfl rfl (by decide)
  refine W.efg rfl rfl rfl (rfl) rfl rfl ?_
  refine Ef.call go18 rfl rfl (new_none w2_7 o2_7.vec (by decide)) ?_
  rintro _ w2_8 ⟨rfl, h2_8⟩
  refine ⟨_, rfl, ?_⟩
  have L5 := L4.trans h2_8
  refine W.rdg (Any.rd (.dec (.notNilP (by kernel_rfl) rfl) rfl) _) rfl rfl rfl (rfl) rfl rfl ?_
  refine W.any (.pickF rfl rfl rfl) rfl rfl rfl ?_
  refine W.any (.move rfl) rfl rfl rfl ?_
  refine W.efg rfl rfl rfl (rfl) rfl rfl ?_
  refine Ef.buildSliceV (len := 1) [_] Try.underlying41 el3 rfl (by simp [Value.cells]) rfl (by decide) (by decide) ?_
  intro g2_12 w2_12 hg2_12 b2_12 h2_12
  have L6 := L5.trans h2_12
  have b2_12 : Blk w2_12 g2_12 3 (([(-1)]).map iv).flatten.toArray := b2_12
  have o2_12 : OVec w2_12 w2_8.heap.size 3 iv 1 (some ⟨g2_12, 0, none⟩) 1 1 ([(-1)]) := b2_12.ovec hg2_12 iv_row rfl rfl (by decide)
  refine W.efg rfl rfl rfl (rfl) rfl rfl ?_
  refine Ef.call go18 rfl rfl (new_none w2_12 o2_12.vec (by decide)) ?_
  rintro _ w2_13 ⟨rfl, h2_13⟩
  refine ⟨_, rfl, ?_⟩
  have L7 := L6.trans h2_13
  refine W.rdg (Any.rd (.dec (.notNilP (by kernel_rfl) rfl) rfl) _) rfl rfl rfl (rfl) rfl rfl ?_
  refine W.any (.pickF rfl rfl rfl) rfl rfl rfl ?_
  refine W.nil ?_
  refine E.thenN ?_
  refine WC.condF rfl ?_
  refine WC.skip ?_
  refine E.thenN ?_
  refine WC.seq ?_
  refine WC.region ?_
  refine W.any (.move rfl) rfl rfl rfl ?_
  refine W.any (.buildA (cells := (pairV (⟨0, 1⟩ : Pair)).toArray) Try.underlying31 sz3 z31 rfl rfl) rfl rfl rfl ?_
  refine W.any (.buildA (cells := (pairV (⟨60, 0⟩ : Pair)).toArray) Try.underlying31 sz3 z31 rfl rfl) rfl rfl rfl ?_
  refine W.any (.buildP (seatV (⟨3, 0, 1, 60, 0⟩ : Seat)) pl33 z33 rfl rfl) rfl rfl rfl ?_
  have f8 := (p1_1.le (h2_3.trans (h2_7.trans (h2_8.trans (h2_12.trans h2_13)))))
  refine W.ef rfl rfl rfl ?_
  refine Ef.call go40 rfl rfl ((by have h := open_led (s := s0) (⟨3, 0, 1, 60, 0⟩ : Seat) 5 f8; rw [e1] at h; exact h)) ?_
  rintro _ w4_4 ⟨F4_4, rfl, p4_4, g4_4, h4_4⟩
  refine ⟨_, rfl, ?_⟩
  have L9 := L7.chP_then h4_4 (fun i hi => Nat.le_trans L1.size (f8.old hi))
  have f10 := (o1_0.le (h1_1.trans (h2_3.trans (h2_7.trans (h2_8.trans (h2_12.trans h2_13))))))
  have f11 := (o2_7.le (h2_8.trans (h2_12.trans h2_13)))
  have f12 := (o2_12.le h2_13)
  have zq13n := (show ∀ g, rowOf (some ⟨g1_0, 0, none⟩) 3 = some g → ¬ F1_1 g from (fun g hg hF => by have := f8.old hF;  have := (o1_0.row hg).2; omega))
  have zq13 := f10.chP h4_4 zq13n
  have zq13g : ∀ g, rowOf (some ⟨g1_0, 0, none⟩) 3 = some g → ¬ F4_4 g := fun g hg hF => (g4_4 _ hF).elim (zq13n g hg) (fun hz => by have := (f10.row hg).2; omega)
  have zq14n := (show ∀ g, rowOf (some ⟨g2_7, 0, none⟩) 2 = some g → ¬ F1_1 g from (fun g hg hF => by have := p1_1.lt hF; have := h2_3.size; have := (f11.row hg).1; omega))
  have zq14 := f11.chP h4_4 zq14n
  have zq14g : ∀ g, rowOf (some ⟨g2_7, 0, none⟩) 2 = some g → ¬ F4_4 g := fun g hg hF => (g4_4 _ hF).elim (zq14n g hg) (fun hz => by have := (f11.row hg).2; omega)
  have zq15n := (show ∀ g, rowOf (some ⟨g2_12, 0, none⟩) 1 = some g → ¬ F1_1 g from (fun g hg hF => by have := p1_1.lt hF; have := h2_3.size; have := h2_7.size; have := h2_8.size; have := (f12.row hg).1; omega))
  have zq15 := f12.chP h4_4 zq15n
  have zq15g : ∀ g, rowOf (some ⟨g2_12, 0, none⟩) 1 = some g → ¬ F4_4 g := fun g hg hF => (g4_4 _ hF).elim (zq15n g hg) (fun hz => by have := (f12.row hg).2; omega)
  refine W.any (.dec (.eql rfl rfl) (show _ = true from by decide)) rfl rfl rfl ?_
  refine W.any (.move rfl) rfl rfl rfl ?_
  refine W.rdg (Any.rd (.move rfl) _) rfl rfl rfl (rfl) rfl rfl ?_
  refine W.rdg (Any.rd (.buildA (cells := (pairV (⟨1, 2⟩ : Pair)).toArray) Try.underlying31 sz3 z31 rfl rfl) _) rfl rfl rfl (rfl) rfl rfl ?_
  refine W.rdg (Any.rd (.buildP (seatV (⟨3, 1, 2, 0, 0⟩ : Seat)) pl33 z33 rfl rfl) _) rfl rfl rfl (rfl) rfl rfl ?_
  refine W.efg rfl rfl rfl (rfl) rfl rfl ?_
  refine Ef.call go40 rfl rfl ((by have h := open_led (s := s1) (⟨3, 1, 2, 0, 0⟩ : Seat) 0 p4_4; rw [e2] at h; exact h)) ?_
  rintro _ w4_10 ⟨F4_10, rfl, p4_10, g4_10, h4_10⟩
  refine ⟨_, rfl, ?_⟩
  have L16 := L9.chP_then h4_10 (fun i hi => Nat.le_trans L1.size (p4_4.old hi))
  have zq17n := (show ∀ g, rowOf (some ⟨g1_0, 0, none⟩) 3 = some g → ¬ F4_4 g from zq13g)
  have zq17 := zq13.chP h4_10 zq17n
  have zq17g : ∀ g, rowOf (some ⟨g1_0, 0, none⟩) 3 = some g → ¬ F4_10 g := fun g hg hF => (g4_10 _ hF).elim (zq17n g hg) (fun hz => by have := (zq13.row hg).2; omega)
  have zq18n := (show ∀ g, rowOf (some ⟨g2_7, 0, none⟩) 2 = some g → ¬ F4_4 g from zq14g)
  have zq18 := zq14.chP h4_10 zq18n
  have zq18g : ∀ g, rowOf (some ⟨g2_7, 0, none⟩) 2 = some g → ¬ F4_10 g := fun g hg hF => (g4_10 _ hF).elim (zq18n g hg) (fun hz => by have := (zq14.row hg).2; omega)
  have zq19n := (show ∀ g, rowOf (some ⟨g2_12, 0, none⟩) 1 = some g → ¬ F4_4 g from zq15g)
  have zq19 := zq15.chP h4_10 zq19n
  have zq19g : ∀ g, rowOf (some ⟨g2_12, 0, none⟩) 1 = some g → ¬ F4_10 g := fun g hg hF => (g4_10 _ hF).elim (zq19n g hg) (fun hz => by have := (zq15.row hg).2; omega)
  refine W.rdg (Any.rd (.dec (.eql rfl rfl) (show _ = true from by decide)) _) rfl rfl rfl (rfl) rfl rfl ?_
  refine W.any (.pickT rfl rfl rfl) rfl rfl rfl ?_
  refine W.any (.move rfl) rfl rfl rfl ?_
  refine W.rdg (Any.rd (.move rfl) _) rfl rfl rfl (rfl) rfl rfl ?_
  refine W.rdg (Any.rd (.buildA (cells := (pairV (⟨0, 1⟩ : Pair)).toArray) Try.underlying31 sz3 z31 rfl rfl) _) rfl rfl rfl (rfl) rfl rfl ?_
  refine W.rdg (Any.rd (.buildA (cells := (pairV (⟨36, 0⟩ : Pair)).toArray) Try.underlying31 sz3 z31 rfl rfl) _) rfl rfl rfl (rfl) rfl rfl ?_
  refine W.rdg (Any.rd (.buildP (seatV (⟨4, 0, 1, 36, 0⟩ : Seat)) pl33 z33 rfl rfl) _) rfl rfl rfl (rfl) rfl rfl ?_
  refine W.efg rfl rfl rfl (rfl) rfl rfl ?_
  refine Ef.call go40 rfl rfl ((by have h := open_led (s := s1) (⟨4, 0, 1, 36, 0⟩ : Seat) 0 p4_10; rw [e3] at h; exact h)) ?_
  rintro _ w4_18 ⟨F4_18, rfl, p4_18, g4_18, h4_18⟩
  refine ⟨_, rfl, ?_⟩
  have L20 := L16.chP_then h4_18 (fun i hi => Nat.le_trans L1.size (p4_10.old hi))
  have zq21n := (show ∀ g, rowOf (some ⟨g1_0, 0, none⟩) 3 = some g → ¬ F4_10 g from zq17g)
  have zq21 := zq17.chP h4_18 zq21n
  have zq21g : ∀ g, rowOf (some ⟨g1_0, 0, none⟩) 3 = some g → ¬ F4_18 g := fun g hg hF => (g4_18 _ hF).elim (zq21n g hg) (fun hz => by have := (zq17.row hg).2; omega)
  have zq22n := (show ∀ g, rowOf (some ⟨g2_7, 0, none⟩) 2 = some g → ¬ F4_10 g from zq18g)
  have zq22 := zq18.chP h4_18 zq22n
  have zq22g : ∀ g, rowOf (some ⟨g2_7, 0, none⟩) 2 = some g → ¬ F4_18 g := fun g hg hF => (g4_18 _ hF).elim (zq22n g hg) (fun hz => by have := (zq18.row hg).2; omega)
  have zq23n := (show ∀ g, rowOf (some ⟨g2_12, 0, none⟩) 1 = some g → ¬ F4_10 g from zq19g)
  have zq23 := zq19.chP h4_18 zq23n
  have zq23g : ∀ g, rowOf (some ⟨g2_12, 0, none⟩) 1 = some g → ¬ F4_18 g := fun g hg hF => (g4_18 _ hF).elim (zq23n g hg) (fun hz => by have := (zq19.row hg).2; omega)
  refine W.rdg (Any.rd (.dec (.eql rfl rfl) (show _ = true from by decide)) _) rfl rfl rfl (rfl) rfl rfl ?_
  refine W.any (.pickT rfl rfl rfl) rfl rfl rfl ?_
  refine W.any (.move rfl) rfl rfl rfl ?_
  refine W.rdg (Any.rd (.move rfl) _) rfl rfl rfl (rfl) rfl rfl ?_
  refine W.efg rfl rfl rfl (rfl) rfl rfl ?_
  refine Ef.call go16 rfl rfl ((by have h := own_led (s := s1) 0 p4_18; rw [e4] at h; exact h)) ?_
  rintro _ w4_23 ⟨rfl, h4_23⟩
  refine ⟨_, rfl, ?_⟩
  have L24 := L20.trans h4_23
  refine W.rdg (Any.rd (.dec (.eql rfl rfl) (show _ = true from by decide)) _) rfl rfl rfl (rfl) rfl rfl ?_
  refine W.any (.pickT rfl rfl rfl) rfl rfl rfl ?_
  refine W.any (.move rfl) rfl rfl rfl ?_
  refine W.rdg (Any.rd (.move rfl) _) rfl rfl rfl (rfl) rfl rfl ?_
  have f25 := (p4_18.le h4_23)
  refine W.efg rfl rfl rfl (rfl) rfl rfl ?_
  refine Ef.call go15 rfl rfl ((by have h := worth_led (s := s1) 0 f25; rw [e5] at h; exact h)) ?_
  rintro _ w4_28 ⟨rfl, h4_28⟩
  refine ⟨_, rfl, ?_⟩
  have L26 := L24.trans h4_28
  refine W.rdg (Any.rd (.dec (.eql rfl rfl) (show _ = true from by decide)) _) rfl rfl rfl (rfl) rfl rfl ?_
  refine W.any (.pickT rfl rfl rfl) rfl rfl rfl ?_
  refine W.any (.assign rfl) rfl rfl rfl ?_
  refine W.nil ?_
  refine E.thenN ?_
  refine WC.seq ?_
  refine WC.region ?_
  refine W.any (.move rfl) rfl rfl rfl ?_
  have f27 := (f25.le h4_28)
  refine W.ef rfl rfl rfl ?_
  refine Ef.call go24 rfl rfl ((by have h := offer_led (s := s1) 3 0 1 40 16 (by omega) f27; rw [e6] at h; exact h)) ?_
  rintro _ w5_1 ⟨F5_1, rfl, p5_1, g5_1, h5_1⟩
  refine ⟨_, rfl, ?_⟩
  have L28 := L26.chP_then h5_1 (fun i hi => Nat.le_trans L1.size (f27.old hi))
  have f29 := (zq21.le (h4_23.trans h4_28))
  have f30 := (zq22.le (h4_23.trans h4_28))
  have f31 := (zq23.le (h4_23.trans h4_28))
  have zq32n := (show ∀ g, rowOf (some ⟨g1_0, 0, none⟩) 3 = some g → ¬ F4_18 g from zq21g)
  have zq32 := f29.chP h5_1 zq32n
  have zq32g : ∀ g, rowOf (some ⟨g1_0, 0, none⟩) 3 = some g → ¬ F5_1 g := fun g hg hF => (g5_1 _ hF).elim (zq32n g hg) (fun hz => by have := (f29.row hg).2; omega)
  have zq33n := (show ∀ g, rowOf (some ⟨g2_7, 0, none⟩) 2 = some g → ¬ F4_18 g from zq22g)
  have zq33 := f30.chP h5_1 zq33n
  have zq33g : ∀ g, rowOf (some ⟨g2_7, 0, none⟩) 2 = some g → ¬ F5_1 g := fun g hg hF => (g5_1 _ hF).elim (zq33n g hg) (fun hz => by have := (f30.row hg).2; omega)
  have zq34n := (show ∀ g, rowOf (some ⟨g2_12, 0, none⟩) 1 = some g → ¬ F4_18 g from zq23g)
  have zq34 := f31.chP h5_1 zq34n
  have zq34g : ∀ g, rowOf (some ⟨g2_12, 0, none⟩) 1 = some g → ¬ F5_1 g := fun g hg hF => (g5_1 _ hF).elim (zq34n g hg) (fun hz => by have := (f31.row hg).2; omega)
  refine W.any (.dec (.eql rfl rfl) (show _ = true from by decide)) rfl rfl rfl ?_
  refine W.any (.move rfl) rfl rfl rfl ?_
  refine W.rdg (Any.rd (.move rfl) _) rfl rfl rfl (rfl) rfl rfl ?_
  refine W.efg rfl rfl rfl (rfl) rfl rfl ?_
  refine Ef.call go26 rfl rfl ((by have h := held_led (s := s6) 3 0 p5_1; rw [e7] at h; exact h)) ?_
  rintro _ w5_5 ⟨rfl, h5_5⟩
  refine ⟨_, rfl, ?_⟩
  have L35 := L28.trans h5_5
  refine W.rdg (Any.rd (.dec (.eql rfl rfl) (show _ = true from by decide)) _) rfl rfl rfl (rfl) rfl rfl ?_
  refine W.any (.pickT rfl rfl rfl) rfl rfl rfl ?_
  refine W.any (.move rfl) rfl rfl rfl ?_
  refine W.rdg (Any.rd (.move rfl) _) rfl rfl rfl (rfl) rfl rfl ?_
  have f36 := (p5_1.le h5_5)
  refine W.efg rfl rfl rfl (rfl) rfl rfl ?_
  refine Ef.call go15 rfl rfl ((by have h := worth_led (s := s6) 0 f36; rw [e8] at h; exact h)) ?_
  rintro _ w5_10 ⟨rfl, h5_10⟩
  refine ⟨_, rfl, ?_⟩
  have L37 := L35.trans h5_10
  refine W.rdg (Any.rd (.dec (.eql rfl rfl) (show _ = true from by decide)) _) rfl rfl rfl (rfl) rfl rfl ?_
  refine W.any (.pickT rfl rfl rfl) rfl rfl rfl ?_
  refine W.any (.move rfl) rfl rfl rfl ?_
  refine W.rdg (Any.rd (.move rfl) _) rfl rfl rfl (rfl) rfl rfl ?_
  refine W.rdg (Any.rd (.buildA (cells := (pairV (⟨0, 0⟩ : Pair)).toArray) Try.underlying31 sz3 z31 rfl rfl) _) rfl rfl rfl (rfl) rfl rfl ?_
  have f38 := (f36.le h5_10)
  refine W.efg rfl rfl rfl (rfl) rfl rfl ?_
  refine Ef.call go42 rfl rfl ((by have h := close_led (s := s6) 3 (⟨0, 0⟩ : Pair) f38; rw [e9] at h; exact h)) ?_
  rintro _ w5_16 ⟨F5_16, rfl, p5_16, g5_16, h5_16⟩
  refine ⟨_, rfl, ?_⟩
  have L39 := L37.chP_then h5_16 (fun i hi => Nat.le_trans L1.size (f38.old hi))
  have f40 := (zq32.le (h5_5.trans h5_10))
  have f41 := (zq33.le (h5_5.trans h5_10))
  have f42 := (zq34.le (h5_5.trans h5_10))
  have zq43n := (show ∀ g, rowOf (some ⟨g1_0, 0, none⟩) 3 = some g → ¬ F5_1 g from zq32g)
  have zq43 := f40.chP h5_16 zq43n
  have zq43g : ∀ g, rowOf (some ⟨g1_0, 0, none⟩) 3 = some g → ¬ F5_16 g := fun g hg hF => (g5_16 _ hF).elim (zq43n g hg) (fun hz => by have := (f40.row hg).2; omega)
  have zq44n := (show ∀ g, rowOf (some ⟨g2_7, 0, none⟩) 2 = some g → ¬ F5_1 g from zq33g)
  have zq44 := f41.chP h5_16 zq44n
  have zq44g : ∀ g, rowOf (some ⟨g2_7, 0, none⟩) 2 = some g → ¬ F5_16 g := fun g hg hF => (g5_16 _ hF).elim (zq44n g hg) (fun hz => by have := (f41.row hg).2; omega)
  have zq45n := (show ∀ g, rowOf (some ⟨g2_12, 0, none⟩) 1 = some g → ¬ F5_1 g from zq34g)
  have zq45 := f42.chP h5_16 zq45n
  have zq45g : ∀ g, rowOf (some ⟨g2_12, 0, none⟩) 1 = some g → ¬ F5_16 g := fun g hg hF => (g5_16 _ hF).elim (zq45n g hg) (fun hz => by have := (f42.row hg).2; omega)
  refine W.rdg (Any.rd (.dec (.eql rfl rfl) (show _ = true from by decide)) _) rfl rfl rfl (rfl) rfl rfl ?_
  refine W.any (.pickT rfl rfl rfl) rfl rfl rfl ?_
  refine W.any (.move rfl) rfl rfl rfl ?_
  refine W.rdg (Any.rd (.move rfl) _) rfl rfl rfl (rfl) rfl rfl ?_
  refine W.efg rfl rfl rfl (rfl) rfl rfl ?_
  refine Ef.call go27 rfl rfl ((by have h := settle_led (s := s6) 3 0 1 3 p5_16; rw [e10] at h; exact h)) ?_
  rintro _ w5_21 ⟨F5_21, rfl, p5_21, g5_21, h5_21⟩
  refine ⟨_, rfl, ?_⟩
  have L46 := L39.chP_then h5_21 (fun i hi => Nat.le_trans L1.size (p5_16.old hi))
  have zq47n := (show ∀ g, rowOf (some ⟨g1_0, 0, none⟩) 3 = some g → ¬ F5_16 g from zq43g)
  have zq47 := zq43.chP h5_21 zq47n
  have zq47g : ∀ g, rowOf (some ⟨g1_0, 0, none⟩) 3 = some g → ¬ F5_21 g := fun g hg hF => (g5_21 _ hF).elim (zq47n g hg) (fun hz => by have := (zq43.row hg).2; omega)
  have zq48n := (show ∀ g, rowOf (some ⟨g2_7, 0, none⟩) 2 = some g → ¬ F5_16 g from zq44g)
  have zq48 := zq44.chP h5_21 zq48n
  have zq48g : ∀ g, rowOf (some ⟨g2_7, 0, none⟩) 2 = some g → ¬ F5_21 g := fun g hg hF => (g5_21 _ hF).elim (zq48n g hg) (fun hz => by have := (zq44.row hg).2; omega)
  have zq49n := (show ∀ g, rowOf (some ⟨g2_12, 0, none⟩) 1 = some g → ¬ F5_16 g from zq45g)
  have zq49 := zq45.chP h5_21 zq49n
  have zq49g : ∀ g, rowOf (some ⟨g2_12, 0, none⟩) 1 = some g → ¬ F5_21 g := fun g hg hF => (g5_21 _ hF).elim (zq49n g hg) (fun hz => by have := (zq45.row hg).2; omega)
  refine W.rdg (Any.rd (.dec (.eql rfl rfl) (show _ = true from by decide)) _) rfl rfl rfl (rfl) rfl rfl ?_
  refine W.any (.pickT rfl rfl rfl) rfl rfl rfl ?_
  refine W.any (.move rfl) rfl rfl rfl ?_
  refine W.rdg (Any.rd (.move rfl) _) rfl rfl rfl (rfl) rfl rfl ?_
  refine W.efg rfl rfl rfl (rfl) rfl rfl ?_
  refine Ef.call go27 rfl rfl ((by have h := settle_led (s := s6) 3 0 1 2 p5_21; rw [e11] at h; exact h)) ?_
  rintro _ w5_26 ⟨F5_26, rfl, p5_26, g5_26, h5_26⟩
  refine ⟨_, rfl, ?_⟩
  have L50 := L46.chP_then h5_26 (fun i hi => Nat.le_trans L1.size (p5_21.old hi))
  have zq51n := (show ∀ g, rowOf (some ⟨g1_0, 0, none⟩) 3 = some g → ¬ F5_21 g from zq47g)
  have zq51 := zq47.chP h5_26 zq51n
  have zq51g : ∀ g, rowOf (some ⟨g1_0, 0, none⟩) 3 = some g → ¬ F5_26 g := fun g hg hF => (g5_26 _ hF).elim (zq51n g hg) (fun hz => by have := (zq47.row hg).2; omega)
  have zq52n := (show ∀ g, rowOf (some ⟨g2_7, 0, none⟩) 2 = some g → ¬ F5_21 g from zq48g)
  have zq52 := zq48.chP h5_26 zq52n
  have zq52g : ∀ g, rowOf (some ⟨g2_7, 0, none⟩) 2 = some g → ¬ F5_26 g := fun g hg hF => (g5_26 _ hF).elim (zq52n g hg) (fun hz => by have := (zq48.row hg).2; omega)
  have zq53n := (show ∀ g, rowOf (some ⟨g2_12, 0, none⟩) 1 = some g → ¬ F5_21 g from zq49g)
  have zq53 := zq49.chP h5_26 zq53n
  have zq53g : ∀ g, rowOf (some ⟨g2_12, 0, none⟩) 1 = some g → ¬ F5_26 g := fun g hg hF => (g5_26 _ hF).elim (zq53n g hg) (fun hz => by have := (zq49.row hg).2; omega)
  refine W.rdg (Any.rd (.dec (.eql rfl rfl) (show _ = true from by decide)) _) rfl rfl rfl (rfl) rfl rfl ?_
  refine W.any (.pickT rfl rfl rfl) rfl rfl rfl ?_
  refine W.any (.move rfl) rfl rfl rfl ?_
  refine W.rdg (Any.rd (.move rfl) _) rfl rfl rfl (rfl) rfl rfl ?_
  refine W.efg rfl rfl rfl (rfl) rfl rfl ?_
  refine Ef.call go15 rfl rfl ((by have h := worth_led (s := s11) 1 p5_26; rw [e12] at h; exact h)) ?_
  rintro _ w5_31 ⟨rfl, h5_31⟩
  refine ⟨_, rfl, ?_⟩
  have L54 := L50.trans h5_31
  refine W.rdg (Any.rd (.dec (.eql rfl rfl) (show _ = true from by decide)) _) rfl rfl rfl (rfl) rfl rfl ?_
  refine W.any (.pickT rfl rfl rfl) rfl rfl rfl ?_
  refine W.any (.move rfl) rfl rfl rfl ?_
  refine W.rdg (Any.rd (.move rfl) _) rfl rfl rfl (rfl) rfl rfl ?_
  have f55 := (p5_26.le h5_31)
  refine W.efg rfl rfl rfl (rfl) rfl rfl ?_
  refine Ef.call go28 rfl rfl ((by have h := fail_led (s := s11) 3 0 1 f55; rw [e13] at h; exact h)) ?_
  rintro _ w5_36 ⟨F5_36, rfl, p5_36, g5_36, h5_36⟩
  refine ⟨_, rfl, ?_⟩
  have L56 := L54.chP_then h5_36 (fun i hi => Nat.le_trans L1.size (f55.old hi))
  have f57 := (zq51.le h5_31)
  have f58 := (zq52.le h5_31)
  have f59 := (zq53.le h5_31)
  have zq60n := (show ∀ g, rowOf (some ⟨g1_0, 0, none⟩) 3 = some g → ¬ F5_26 g from zq51g)
  have zq60 := f57.chP h5_36 zq60n
  have zq60g : ∀ g, rowOf (some ⟨g1_0, 0, none⟩) 3 = some g → ¬ F5_36 g := fun g hg hF => (g5_36 _ hF).elim (zq60n g hg) (fun hz => by have := (f57.row hg).2; omega)
  have zq61n := (show ∀ g, rowOf (some ⟨g2_7, 0, none⟩) 2 = some g → ¬ F5_26 g from zq52g)
  have zq61 := f58.chP h5_36 zq61n
  have zq61g : ∀ g, rowOf (some ⟨g2_7, 0, none⟩) 2 = some g → ¬ F5_36 g := fun g hg hF => (g5_36 _ hF).elim (zq61n g hg) (fun hz => by have := (f58.row hg).2; omega)
  have zq62n := (show ∀ g, rowOf (some ⟨g2_12, 0, none⟩) 1 = some g → ¬ F5_26 g from zq53g)
  have zq62 := f59.chP h5_36 zq62n
  have zq62g : ∀ g, rowOf (some ⟨g2_12, 0, none⟩) 1 = some g → ¬ F5_36 g := fun g hg hF => (g5_36 _ hF).elim (zq62n g hg) (fun hz => by have := (f59.row hg).2; omega)
  refine W.rdg (Any.rd (.dec (.eql rfl rfl) (show _ = true from by decide)) _) rfl rfl rfl (rfl) rfl rfl ?_
  refine W.any (.pickT rfl rfl rfl) rfl rfl rfl ?_
  refine W.any (.assign rfl) rfl rfl rfl ?_
  refine W.nil ?_
  refine E.thenN ?_
  refine WC.seq ?_
  refine WC.region ?_
  refine W.any (.move rfl) rfl rfl rfl ?_
  refine W.any (.buildA (cells := (pairV (⟨1, 2⟩ : Pair)).toArray) Try.underlying31 sz3 z31 rfl rfl) rfl rfl rfl ?_
  refine W.any (.buildA (cells := (pairV (⟨30, 10⟩ : Pair)).toArray) Try.underlying31 sz3 z31 rfl rfl) rfl rfl rfl ?_
  refine W.any (.buildP (seatV (⟨7, 1, 2, 30, 10⟩ : Seat)) pl33 z33 rfl rfl) rfl rfl rfl ?_
  refine W.ef rfl rfl rfl ?_
  refine Ef.call go40 rfl rfl ((by have h := open_led (s := s11) (⟨7, 1, 2, 30, 10⟩ : Seat) 0 p5_36; rw [e14] at h; exact h)) ?_
  rintro _ w6_4 ⟨F6_4, rfl, p6_4, g6_4, h6_4⟩
  refine ⟨_, rfl, ?_⟩
  have L63 := L56.chP_then h6_4 (fun i hi => Nat.le_trans L1.size (p5_36.old hi))
  have zq64n := (show ∀ g, rowOf (some ⟨g1_0, 0, none⟩) 3 = some g → ¬ F5_36 g from zq60g)
  have zq64 := zq60.chP h6_4 zq64n
  have zq64g : ∀ g, rowOf (some ⟨g1_0, 0, none⟩) 3 = some g → ¬ F6_4 g := fun g hg hF => (g6_4 _ hF).elim (zq64n g hg) (fun hz => by have := (zq60.row hg).2; omega)
  have zq65n := (show ∀ g, rowOf (some ⟨g2_7, 0, none⟩) 2 = some g → ¬ F5_36 g from zq61g)
  have zq65 := zq61.chP h6_4 zq65n
  have zq65g : ∀ g, rowOf (some ⟨g2_7, 0, none⟩) 2 = some g → ¬ F6_4 g := fun g hg hF => (g6_4 _ hF).elim (zq65n g hg) (fun hz => by have := (zq61.row hg).2; omega)
  have zq66n := (show ∀ g, rowOf (some ⟨g2_12, 0, none⟩) 1 = some g → ¬ F5_36 g from zq62g)
  have zq66 := zq62.chP h6_4 zq66n
  have zq66g : ∀ g, rowOf (some ⟨g2_12, 0, none⟩) 1 = some g → ¬ F6_4 g := fun g hg hF => (g6_4 _ hF).elim (zq66n g hg) (fun hz => by have := (zq62.row hg).2; omega)
  refine W.any (.dec (.eql rfl rfl) (show _ = true from by decide)) rfl rfl rfl ?_
  refine W.any (.move rfl) rfl rfl rfl ?_
  refine W.rdg (Any.rd (.move rfl) _) rfl rfl rfl (rfl) rfl rfl ?_
  refine W.rdg (Any.rd (.buildP (legV (⟨3, 0, 12⟩ : Leg)) pl37 z37 rfl rfl) _) rfl rfl rfl (rfl) rfl rfl ?_
  refine W.rdg (Any.rd (.buildP (legV (⟨7, 0, 11⟩ : Leg)) pl37 z37 rfl rfl) _) rfl rfl rfl (rfl) rfl rfl ?_
  refine W.efg rfl rfl rfl (rfl) rfl rfl ?_
  refine Ef.buildSliceV (len := 2) [_, _] Try.underlying24 el37 rfl (by simp [Value.cells, legV_row.len]) rfl (by decide) (by decide) ?_
  intro g6_10 w6_10 hg6_10 b6_10 h6_10
  have L67 := L63.trans h6_10
  have b6_10 : Blk w6_10 g6_10 37 (([(⟨3, 0, 12⟩ : Leg), (⟨7, 0, 11⟩ : Leg)]).map legV).flatten.toArray := b6_10
  have o6_10 : OVec w6_10 w6_4.heap.size 37 legV 3 (some ⟨g6_10, 0, none⟩) 2 2 ([(⟨3, 0, 12⟩ : Leg), (⟨7, 0, 11⟩ : Leg)]) := b6_10.ovec hg6_10 legV_row rfl rfl (by decide)
  have f68 := (p6_4.le h6_10)
  refine W.efg rfl rfl rfl (rfl) rfl rfl ?_
  refine Ef.call go13 rfl rfl ((by have h := pay_led (s := s14) (cg := 2) f68 o6_10.vec (by omega) (fun q h0 h1 h2 => (show ∀ g, rowOf (some ⟨g6_10, 0, none⟩) 2 = some g → ¬ F6_4 g from (fun g hg hF => by have := p6_4.lt hF;  have := (o6_10.row hg).1; omega)) q (rowOf_of h0 (by have := o6_10.cap; omega))); rw [e15] at h; exact h)) ?_
  rintro _ w6_11 ⟨F6_11, rfl, p6_11, g6_11, h6_11⟩
  refine ⟨_, rfl, ?_⟩
  have L69 := L67.chP_then h6_11 (fun i hi => Nat.le_trans L1.size (f68.old hi))
  have f70 := (zq64.le h6_10)
  have f71 := (zq65.le h6_10)
  have f72 := (zq66.le h6_10)
  have zq73n := (show ∀ g, rowOf (some ⟨g1_0, 0, none⟩) 3 = some g → ¬ F6_4 g from zq64g)
  have zq73 := f70.chP h6_11 zq73n
  have zq73g : ∀ g, rowOf (some ⟨g1_0, 0, none⟩) 3 = some g → ¬ F6_11 g := fun g hg hF => (g6_11 _ hF).elim (zq73n g hg) (fun hz => by have := (f70.row hg).2; omega)
  have zq74n := (show ∀ g, rowOf (some ⟨g2_7, 0, none⟩) 2 = some g → ¬ F6_4 g from zq65g)
  have zq74 := f71.chP h6_11 zq74n
  have zq74g : ∀ g, rowOf (some ⟨g2_7, 0, none⟩) 2 = some g → ¬ F6_11 g := fun g hg hF => (g6_11 _ hF).elim (zq74n g hg) (fun hz => by have := (f71.row hg).2; omega)
  have zq75n := (show ∀ g, rowOf (some ⟨g2_12, 0, none⟩) 1 = some g → ¬ F6_4 g from zq66g)
  have zq75 := f72.chP h6_11 zq75n
  have zq75g : ∀ g, rowOf (some ⟨g2_12, 0, none⟩) 1 = some g → ¬ F6_11 g := fun g hg hF => (g6_11 _ hF).elim (zq75n g hg) (fun hz => by have := (f72.row hg).2; omega)
  have zq76n := (show ∀ g, rowOf (some ⟨g6_10, 0, none⟩) 2 = some g → ¬ F6_4 g from (fun g hg hF => by have := p6_4.lt hF;  have := (o6_10.row hg).1; omega))
  have zq76 := o6_10.chP h6_11 zq76n
  have zq76g : ∀ g, rowOf (some ⟨g6_10, 0, none⟩) 2 = some g → ¬ F6_11 g := fun g hg hF => (g6_11 _ hF).elim (zq76n g hg) (fun hz => by have := (o6_10.row hg).2; omega)
  refine W.rdg (Any.rd (.dec (.eql rfl rfl) (show _ = true from by decide)) _) rfl rfl rfl (rfl) rfl rfl ?_
  refine W.any (.pickT rfl rfl rfl) rfl rfl rfl ?_
  refine W.any (.move rfl) rfl rfl rfl ?_
  refine W.rdg (Any.rd (.move rfl) _) rfl rfl rfl (rfl) rfl rfl ?_
  refine W.efg rfl rfl rfl (rfl) rfl rfl ?_
  refine Ef.call go15 rfl rfl ((by have h := worth_led (s := s15) 2 p6_11; rw [e16] at h; exact h)) ?_
  rintro _ w6_16 ⟨rfl, h6_16⟩
  refine ⟨_, rfl, ?_⟩
  have L77 := L69.trans h6_16
  refine W.rdg (Any.rd (.dec (.eql rfl rfl) (show _ = true from by decide)) _) rfl rfl rfl (rfl) rfl rfl ?_
  refine W.any (.pickT rfl rfl rfl) rfl rfl rfl ?_
  refine W.any (.move rfl) rfl rfl rfl ?_
  refine W.rdg (Any.rd (.move rfl) _) rfl rfl rfl (rfl) rfl rfl ?_
  refine W.rdg (Any.rd (.buildP (legV (⟨3, 0, 1⟩ : Leg)) pl37 z37 rfl rfl) _) rfl rfl rfl (rfl) rfl rfl ?_
  refine W.rdg (Any.rd (.buildP (legV (⟨7, 0, 99⟩ : Leg)) pl37 z37 rfl rfl) _) rfl rfl rfl (rfl) rfl rfl ?_
  refine W.efg rfl rfl rfl (rfl) rfl rfl ?_
  refine Ef.buildSliceV (len := 2) [_, _] Try.underlying24 el37 rfl (by simp [Value.cells, legV_row.len]) rfl (by decide) (by decide) ?_
  intro g6_23 w6_23 hg6_23 b6_23 h6_23
  have L78 := L77.trans h6_23
  have b6_23 : Blk w6_23 g6_23 37 (([(⟨3, 0, 1⟩ : Leg), (⟨7, 0, 99⟩ : Leg)]).map legV).flatten.toArray := b6_23
  have o6_23 : OVec w6_23 w6_16.heap.size 37 legV 3 (some ⟨g6_23, 0, none⟩) 2 2 ([(⟨3, 0, 1⟩ : Leg), (⟨7, 0, 99⟩ : Leg)]) := b6_23.ovec hg6_23 legV_row rfl rfl (by decide)
  have f79 := (p6_11.le (h6_16.trans h6_23))
  refine W.efg rfl rfl rfl (rfl) rfl rfl ?_
  refine Ef.call go13 rfl rfl ((by have h := pay_led (s := s15) (cg := 2) f79 o6_23.vec (by omega) (fun q h0 h1 h2 => (show ∀ g, rowOf (some ⟨g6_23, 0, none⟩) 2 = some g → ¬ F6_11 g from (fun g hg hF => by have := p6_11.lt hF; have := h6_16.size; have := (o6_23.row hg).1; omega)) q (rowOf_of h0 (by have := o6_23.cap; omega))); rw [e17] at h; exact h)) ?_
  rintro _ w6_24 ⟨F6_24, rfl, p6_24, g6_24, h6_24⟩
  refine ⟨_, rfl, ?_⟩
  have L80 := L78.chP_then h6_24 (fun i hi => Nat.le_trans L1.size (f79.old hi))
  have f81 := (zq73.le (h6_16.trans h6_23))
  have f82 := (zq74.le (h6_16.trans h6_23))
  have f83 := (zq75.le (h6_16.trans h6_23))
  have f84 := (zq76.le (h6_16.trans h6_23))
  have zq85n := (show ∀ g, rowOf (some ⟨g1_0, 0, none⟩) 3 = some g → ¬ F6_11 g from zq73g)
  have zq85 := f81.chP h6_24 zq85n
  have zq85g : ∀ g, rowOf (some ⟨g1_0, 0, none⟩) 3 = some g → ¬ F6_24 g := fun g hg hF => (g6_24 _ hF).elim (zq85n g hg) (fun hz => by have := (f81.row hg).2; omega)
  have zq86n := (show ∀ g, rowOf (some ⟨g2_7, 0, none⟩) 2 = some g → ¬ F6_11 g from zq74g)
  have zq86 := f82.chP h6_24 zq86n
  have zq86g : ∀ g, rowOf (some ⟨g2_7, 0, none⟩) 2 = some g → ¬ F6_24 g := fun g hg hF => (g6_24 _ hF).elim (zq86n g hg) (fun hz => by have := (f82.row hg).2; omega)
  have zq87n := (show ∀ g, rowOf (some ⟨g2_12, 0, none⟩) 1 = some g → ¬ F6_11 g from zq75g)
  have zq87 := f83.chP h6_24 zq87n
  have zq87g : ∀ g, rowOf (some ⟨g2_12, 0, none⟩) 1 = some g → ¬ F6_24 g := fun g hg hF => (g6_24 _ hF).elim (zq87n g hg) (fun hz => by have := (f83.row hg).2; omega)
  have zq88n := (show ∀ g, rowOf (some ⟨g6_10, 0, none⟩) 2 = some g → ¬ F6_11 g from zq76g)
  have zq88 := f84.chP h6_24 zq88n
  have zq88g : ∀ g, rowOf (some ⟨g6_10, 0, none⟩) 2 = some g → ¬ F6_24 g := fun g hg hF => (g6_24 _ hF).elim (zq88n g hg) (fun hz => by have := (f84.row hg).2; omega)
  have zq89n := (show ∀ g, rowOf (some ⟨g6_23, 0, none⟩) 2 = some g → ¬ F6_11 g from (fun g hg hF => by have := p6_11.lt hF; have := h6_16.size; have := (o6_23.row hg).1; omega))
  have zq89 := o6_23.chP h6_24 zq89n
  have zq89g : ∀ g, rowOf (some ⟨g6_23, 0, none⟩) 2 = some g → ¬ F6_24 g := fun g hg hF => (g6_24 _ hF).elim (zq89n g hg) (fun hz => by have := (o6_23.row hg).2; omega)
  refine W.rdg (Any.rd (.dec (.eql rfl rfl) (show _ = true from by decide)) _) rfl rfl rfl (rfl) rfl rfl ?_
  refine W.any (.pickT rfl rfl rfl) rfl rfl rfl ?_
  refine W.any (.move rfl) rfl rfl rfl ?_
  refine W.rdg (Any.rd (.move rfl) _) rfl rfl rfl (rfl) rfl rfl ?_
  refine W.efg rfl rfl rfl (rfl) rfl rfl ?_
  refine Ef.call go15 rfl rfl ((by have h := worth_led (s := s15) 0 p6_24; rw [e18] at h; exact h)) ?_
  rintro _ w6_29 ⟨rfl, h6_29⟩
  refine ⟨_, rfl, ?_⟩
  have L90 := L80.trans h6_29
  refine W.rdg (Any.rd (.dec (.eql rfl rfl) (show _ = true from by decide)) _) rfl rfl rfl (rfl) rfl rfl ?_
  refine W.any (.pickT rfl rfl rfl) rfl rfl rfl ?_
  refine W.any (.assign rfl) rfl rfl rfl ?_
  refine W.nil ?_
  refine E.thenN ?_
  refine WC.seq ?_
  refine WC.region ?_
  refine W.any (.move rfl) rfl rfl rfl ?_
  refine W.ef rfl rfl rfl ?_
  refine Ef.buildSliceV (len := 2) [_, _] Try.underlying41 el3 rfl (by simp [Value.cells]) rfl (by decide) (by decide) ?_
  intro g7_1 w7_1 hg7_1 b7_1 h7_1
  have L91 := L90.trans h7_1
  have b7_1 : Blk w7_1 g7_1 3 (([3, 7]).map iv).flatten.toArray := b7_1
  have o7_1 : OVec w7_1 w6_29.heap.size 3 iv 1 (some ⟨g7_1, 0, none⟩) 2 2 ([3, 7]) := b7_1.ovec hg7_1 iv_row rfl rfl (by decide)
  refine W.any (.buildA (cells := (pairV (⟨0, 2⟩ : Pair)).toArray) Try.underlying31 sz3 z31 rfl rfl) rfl rfl rfl ?_
  refine W.any (.buildA (cells := (pairV (⟨8, 21⟩ : Pair)).toArray) Try.underlying31 sz3 z31 rfl rfl) rfl rfl rfl ?_
  refine W.any (.buildP (seatV (⟨3, 0, 2, 8, 21⟩ : Seat)) pl33 z33 rfl rfl) rfl rfl rfl ?_
  refine W.any (.buildA (cells := (pairV (⟨1, 0⟩ : Pair)).toArray) Try.underlying31 sz3 z31 rfl rfl) rfl rfl rfl ?_
  refine W.any (.buildA (cells := (pairV (⟨70, 0⟩ : Pair)).toArray) Try.underlying31 sz3 z31 rfl rfl) rfl rfl rfl ?_
  refine W.any (.buildP (seatV (⟨9, 1, 0, 70, 0⟩ : Seat)) pl33 z33 rfl rfl) rfl rfl rfl ?_
  refine W.ef rfl rfl rfl ?_
  refine Ef.buildSliceV (len := 2) [_, _] Try.underlying50 el33 rfl (by simp [Value.cells, seatV_row.len]) rfl (by decide) (by decide) ?_
  intro g7_8 w7_8 hg7_8 b7_8 h7_8
  have L92 := L91.trans h7_8
  have b7_8 : Blk w7_8 g7_8 33 (([(⟨3, 0, 2, 8, 21⟩ : Seat), (⟨9, 1, 0, 70, 0⟩ : Seat)]).map seatV).flatten.toArray := b7_8
  have o7_8 : OVec w7_8 w7_1.heap.size 33 seatV 5 (some ⟨g7_8, 0, none⟩) 2 2 ([(⟨3, 0, 2, 8, 21⟩ : Seat), (⟨9, 1, 0, 70, 0⟩ : Seat)]) := b7_8.ovec hg7_8 seatV_row rfl rfl (by decide)
  refine W.ef rfl rfl rfl ?_
  refine Ef.buildSliceV (len := 3) [_, _, _] Try.underlying41 el3 rfl (by simp [Value.cells]) rfl (by decide) (by decide) ?_
  intro g7_9 w7_9 hg7_9 b7_9 h7_9
  have L93 := L92.trans h7_9
  have b7_9 : Blk w7_9 g7_9 3 (([0, 1, 0]).map iv).flatten.toArray := b7_9
  have o7_9 : OVec w7_9 w7_8.heap.size 3 iv 1 (some ⟨g7_9, 0, none⟩) 3 3 ([0, 1, 0]) := b7_9.ovec hg7_9 iv_row rfl rfl (by decide)
  have f94 := (p6_24.le (h6_29.trans (h7_1.trans (h7_8.trans h7_9))))
  have f95 := (o7_1.le (h7_8.trans h7_9))
  have f96 := (o7_8.le h7_9)
  refine W.ef rfl rfl rfl ?_
  refine Ef.call go43 rfl rfl ((by have h := cut_led (s := s15) (co := 2) (cS := 2) (cf := 3) f94 f95.vec f96.vec o7_9.vec (by omega) (by omega) (by omega) (fun q h0 h1 h2 => (show ∀ g, rowOf (some ⟨g7_1, 0, none⟩) 2 = some g → ¬ F6_24 g from (fun g hg hF => by have := p6_24.lt hF; have := h6_29.size; have := (f95.row hg).1; omega)) q (rowOf_of h0 (by have := f95.cap; omega))) (fun q h0 h1 h2 => (show ∀ g, rowOf (some ⟨g7_8, 0, none⟩) 2 = some g → ¬ F6_24 g from (fun g hg hF => by have := p6_24.lt hF; have := h6_29.size; have := h7_1.size; have := (f96.row hg).1; omega)) q (rowOf_of h0 (by have := f96.cap; omega))) (fun q h0 h1 h2 => (show ∀ g, rowOf (some ⟨g7_9, 0, none⟩) 3 = some g → ¬ F6_24 g from (fun g hg hF => by have := p6_24.lt hF; have := h6_29.size; have := h7_1.size; have := h7_8.size; have := (o7_9.row hg).1; omega)) q (rowOf_of h0 (by have := o7_9.cap; omega))); rw [e19] at h; exact h)) ?_
  rintro _ w7_10 ⟨F7_10, rfl, p7_10, g7_10, h7_10⟩
  refine ⟨_, rfl, ?_⟩
  have L97 := L93.chP_then h7_10 (fun i hi => Nat.le_trans L1.size (f94.old hi))
  have f98 := (zq85.le (h6_29.trans (h7_1.trans (h7_8.trans h7_9))))
  have f99 := (zq86.le (h6_29.trans (h7_1.trans (h7_8.trans h7_9))))
  have f100 := (zq87.le (h6_29.trans (h7_1.trans (h7_8.trans h7_9))))
  have f101 := (zq88.le (h6_29.trans (h7_1.trans (h7_8.trans h7_9))))
  have f102 := (zq89.le (h6_29.trans (h7_1.trans (h7_8.trans h7_9))))
  have zq103n := (show ∀ g, rowOf (some ⟨g1_0, 0, none⟩) 3 = some g → ¬ F6_24 g from zq85g)
  have zq103 := f98.chP h7_10 zq103n
  have zq103g : ∀ g, rowOf (some ⟨g1_0, 0, none⟩) 3 = some g → ¬ F7_10 g := fun g hg hF => (g7_10 _ hF).elim (zq103n g hg) (fun hz => by have := (f98.row hg).2; omega)
  have zq104n := (show ∀ g, rowOf (some ⟨g2_7, 0, none⟩) 2 = some g → ¬ F6_24 g from zq86g)
  have zq104 := f99.chP h7_10 zq104n
  have zq104g : ∀ g, rowOf (some ⟨g2_7, 0, none⟩) 2 = some g → ¬ F7_10 g := fun g hg hF => (g7_10 _ hF).elim (zq104n g hg) (fun hz => by have := (f99.row hg).2; omega)
  have zq105n := (show ∀ g, rowOf (some ⟨g2_12, 0, none⟩) 1 = some g → ¬ F6_24 g from zq87g)
  have zq105 := f100.chP h7_10 zq105n
  have zq105g : ∀ g, rowOf (some ⟨g2_12, 0, none⟩) 1 = some g → ¬ F7_10 g := fun g hg hF => (g7_10 _ hF).elim (zq105n g hg) (fun hz => by have := (f100.row hg).2; omega)
  have zq106n := (show ∀ g, rowOf (some ⟨g6_10, 0, none⟩) 2 = some g → ¬ F6_24 g from zq88g)
  have zq106 := f101.chP h7_10 zq106n
  have zq106g : ∀ g, rowOf (some ⟨g6_10, 0, none⟩) 2 = some g → ¬ F7_10 g := fun g hg hF => (g7_10 _ hF).elim (zq106n g hg) (fun hz => by have := (f101.row hg).2; omega)
  have zq107n := (show ∀ g, rowOf (some ⟨g6_23, 0, none⟩) 2 = some g → ¬ F6_24 g from zq89g)
  have zq107 := f102.chP h7_10 zq107n
  have zq107g : ∀ g, rowOf (some ⟨g6_23, 0, none⟩) 2 = some g → ¬ F7_10 g := fun g hg hF => (g7_10 _ hF).elim (zq107n g hg) (fun hz => by have := (f102.row hg).2; omega)
  have zq108n := (show ∀ g, rowOf (some ⟨g7_1, 0, none⟩) 2 = some g → ¬ F6_24 g from (fun g hg hF => by have := p6_24.lt hF; have := h6_29.size; have := (f95.row hg).1; omega))
  have zq108 := f95.chP h7_10 zq108n
  have zq108g : ∀ g, rowOf (some ⟨g7_1, 0, none⟩) 2 = some g → ¬ F7_10 g := fun g hg hF => (g7_10 _ hF).elim (zq108n g hg) (fun hz => by have := (f95.row hg).2; omega)
  have zq109n := (show ∀ g, rowOf (some ⟨g7_8, 0, none⟩) 2 = some g → ¬ F6_24 g from (fun g hg hF => by have := p6_24.lt hF; have := h6_29.size; have := h7_1.size; have := (f96.row hg).1; omega))
  have zq109 := f96.chP h7_10 zq109n
  have zq109g : ∀ g, rowOf (some ⟨g7_8, 0, none⟩) 2 = some g → ¬ F7_10 g := fun g hg hF => (g7_10 _ hF).elim (zq109n g hg) (fun hz => by have := (f96.row hg).2; omega)
  have zq110n := (show ∀ g, rowOf (some ⟨g7_9, 0, none⟩) 3 = some g → ¬ F6_24 g from (fun g hg hF => by have := p6_24.lt hF; have := h6_29.size; have := h7_1.size; have := h7_8.size; have := (o7_9.row hg).1; omega))
  have zq110 := o7_9.chP h7_10 zq110n
  have zq110g : ∀ g, rowOf (some ⟨g7_9, 0, none⟩) 3 = some g → ¬ F7_10 g := fun g hg hF => (g7_10 _ hF).elim (zq110n g hg) (fun hz => by have := (o7_9.row hg).2; omega)
  refine W.any (.dec (.eql rfl rfl) (show _ = true from by decide)) rfl rfl rfl ?_
  refine W.any (.move rfl) rfl rfl rfl ?_
  refine W.rdg (Any.rd (.move rfl) _) rfl rfl rfl (rfl) rfl rfl ?_
  refine W.rdg (Any.rd (.buildA (cells := (pairV (⟨(-20), 30⟩ : Pair)).toArray) Try.underlying31 sz3 z31 rfl rfl) _) rfl rfl rfl (rfl) rfl rfl ?_
  refine W.rdg (Any.rd (.buildA (cells := (pairV (⟨2, 0⟩ : Pair)).toArray) Try.underlying31 sz3 z31 rfl rfl) _) rfl rfl rfl (rfl) rfl rfl ?_
  refine W.efg rfl rfl rfl (rfl) rfl rfl ?_
  refine Ef.call go44 rfl rfl ((by have h := splice_led (s := s19) 9 (⟨(-20), 30⟩ : Pair) (⟨2, 0⟩ : Pair) (by intro k hk; have : k = 0 ∨ k = 1 := (by omega); rcases this with rfl | rfl <;> simp [Pair.ix]) p7_10; rw [e20] at h; exact h)) ?_
  rintro _ w7_16 ⟨F7_16, rfl, p7_16, g7_16, h7_16⟩
  refine ⟨_, rfl, ?_⟩
  have L111 := L97.chP_then h7_16 (fun i hi => Nat.le_trans L1.size (p7_10.old hi))
  have zq112n := (show ∀ g, rowOf (some ⟨g1_0, 0, none⟩) 3 = some g → ¬ F7_10 g from zq103g)
  have zq112 := zq103.chP h7_16 zq112n
  have zq112g : ∀ g, rowOf (some ⟨g1_0, 0, none⟩) 3 = some g → ¬ F7_16 g := fun g hg hF => (g7_16 _ hF).elim (zq112n g hg) (fun hz => by have := (zq103.row hg).2; omega)
  have zq113n := (show ∀ g, rowOf (some ⟨g2_7, 0, none⟩) 2 = some g → ¬ F7_10 g from zq104g)
  have zq113 := zq104.chP h7_16 zq113n
  have zq113g : ∀ g, rowOf (some ⟨g2_7, 0, none⟩) 2 = some g → ¬ F7_16 g := fun g hg hF => (g7_16 _ hF).elim (zq113n g hg) (fun hz => by have := (zq104.row hg).2; omega)
  have zq114n := (show ∀ g, rowOf (some ⟨g2_12, 0, none⟩) 1 = some g → ¬ F7_10 g from zq105g)
  have zq114 := zq105.chP h7_16 zq114n
  have zq114g : ∀ g, rowOf (some ⟨g2_12, 0, none⟩) 1 = some g → ¬ F7_16 g := fun g hg hF => (g7_16 _ hF).elim (zq114n g hg) (fun hz => by have := (zq105.row hg).2; omega)
  have zq115n := (show ∀ g, rowOf (some ⟨g6_10, 0, none⟩) 2 = some g → ¬ F7_10 g from zq106g)
  have zq115 := zq106.chP h7_16 zq115n
  have zq115g : ∀ g, rowOf (some ⟨g6_10, 0, none⟩) 2 = some g → ¬ F7_16 g := fun g hg hF => (g7_16 _ hF).elim (zq115n g hg) (fun hz => by have := (zq106.row hg).2; omega)
  have zq116n := (show ∀ g, rowOf (some ⟨g6_23, 0, none⟩) 2 = some g → ¬ F7_10 g from zq107g)
  have zq116 := zq107.chP h7_16 zq116n
  have zq116g : ∀ g, rowOf (some ⟨g6_23, 0, none⟩) 2 = some g → ¬ F7_16 g := fun g hg hF => (g7_16 _ hF).elim (zq116n g hg) (fun hz => by have := (zq107.row hg).2; omega)
  have zq117n := (show ∀ g, rowOf (some ⟨g7_1, 0, none⟩) 2 = some g → ¬ F7_10 g from zq108g)
  have zq117 := zq108.chP h7_16 zq117n
  have zq117g : ∀ g, rowOf (some ⟨g7_1, 0, none⟩) 2 = some g → ¬ F7_16 g := fun g hg hF => (g7_16 _ hF).elim (zq117n g hg) (fun hz => by have := (zq108.row hg).2; omega)
  have zq118n := (show ∀ g, rowOf (some ⟨g7_8, 0, none⟩) 2 = some g → ¬ F7_10 g from zq109g)
  have zq118 := zq109.chP h7_16 zq118n
  have zq118g : ∀ g, rowOf (some ⟨g7_8, 0, none⟩) 2 = some g → ¬ F7_16 g := fun g hg hF => (g7_16 _ hF).elim (zq118n g hg) (fun hz => by have := (zq109.row hg).2; omega)
  have zq119n := (show ∀ g, rowOf (some ⟨g7_9, 0, none⟩) 3 = some g → ¬ F7_10 g from zq110g)
  have zq119 := zq110.chP h7_16 zq119n
  have zq119g : ∀ g, rowOf (some ⟨g7_9, 0, none⟩) 3 = some g → ¬ F7_16 g := fun g hg hF => (g7_16 _ hF).elim (zq119n g hg) (fun hz => by have := (zq110.row hg).2; omega)
  refine W.rdg (Any.rd (.dec (.eql rfl rfl) (show _ = true from by decide)) _) rfl rfl rfl (rfl) rfl rfl ?_
  refine W.any (.pickT rfl rfl rfl) rfl rfl rfl ?_
  refine W.any (.move rfl) rfl rfl rfl ?_
  refine W.rdg (Any.rd (.move rfl) _) rfl rfl rfl (rfl) rfl rfl ?_
  refine W.efg rfl rfl rfl (rfl) rfl rfl ?_
  refine Ef.call go16 rfl rfl ((by have h := own_led (s := s20) 1 p7_16; rw [e21] at h; exact h)) ?_
  rintro _ w7_21 ⟨rfl, h7_21⟩
  refine ⟨_, rfl, ?_⟩
  have L120 := L111.trans h7_21
  refine W.rdg (Any.rd (.dec (.eql rfl rfl) (show _ = true from by decide)) _) rfl rfl rfl (rfl) rfl rfl ?_
  refine W.any (.pickT rfl rfl rfl) rfl rfl rfl ?_
  refine W.any (.move rfl) rfl rfl rfl ?_
  refine W.rdg (Any.rd (.move rfl) _) rfl rfl rfl (rfl) rfl rfl ?_
  have f121 := (p7_16.le h7_21)
  refine W.efg rfl rfl rfl (rfl) rfl rfl ?_
  refine Ef.call go16 rfl rfl ((by have h := own_led (s := s20) 0 f121; rw [e22] at h; exact h)) ?_
  rintro _ w7_26 ⟨rfl, h7_26⟩
  refine ⟨_, rfl, ?_⟩
  have L122 := L120.trans h7_26
  refine W.rdg (Any.rd (.dec (.eql rfl rfl) (show _ = true from by decide)) _) rfl rfl rfl (rfl) rfl rfl ?_
  refine W.any (.pickT rfl rfl rfl) rfl rfl rfl ?_
  refine W.any (.assign rfl) rfl rfl rfl ?_
  refine W.nil ?_
  refine E.thenN ?_
  refine WC.seq ?_
  refine WC.region ?_
  refine W.any (.move rfl) rfl rfl rfl ?_
  have f123 := (f121.le h7_26)
  refine W.ef rfl rfl rfl ?_
  refine Ef.call go14 rfl rfl ((by have h := seat_led (s := s20) 9 f123; rw [f1, f2] at h; exact h)) ?_
  rintro _ w8_1 ⟨rfl, h8_1⟩
  refine ⟨_, rfl, ?_⟩
  have L124 := L122.trans h8_1
  refine W.any (.move rfl) rfl rfl rfl ?_
  refine W.any (.extract (v := .agg (seatV (⟨9, 1, 0, 50, 30⟩ : Seat)).toArray) rfl rfl) rfl rfl rfl ?_
  refine W.any (.extract (v := .bool true) rfl rfl) rfl rfl rfl ?_
  refine W.ef rfl rfl rfl ?_
  refine Ef.allocA z33 ?_
  intro g8_5 w8_5 hg8_5 b8_5 h8_5
  have L125 := L124.trans h8_5
  have b8_5 : Blk w8_5 g8_5 33 (seatV noSeat).toArray := b8_5
  refine W.ef0 rfl rfl ?_
  refine Ef.storeAll sz33 (by rfl) rfl rfl b8_5 (by rfl) (seatV_row.one (⟨9, 1, 0, 50, 30⟩ : Seat)) ?_
  intro w8_6 b8_6 h8_6
  have b8_6 : Blk w8_6 g8_5 33 (seatV (⟨9, 1, 0, 50, 30⟩ : Seat)).toArray := b8_6
  have L126 : Le w w8_6 := L125.then_ h8_6 (fun q hq => by cases hq; exact Nat.le_trans L124.size hg8_5)
  refine W.any (.assign rfl) rfl rfl rfl ?_
  refine W.nil ?_
  refine E.thenN ?_
  refine WC.seq ?_
  refine WC.region ?_
  refine W.any (.move rfl) rfl rfl rfl ?_
  refine W.any (.move rfl) rfl rfl rfl ?_
  refine W.rdg (Any.rd (.move rfl) _) rfl rfl rfl (rfl) rfl rfl ?_
  refine W.any (.pickT rfl rfl rfl) rfl rfl rfl ?_
  refine W.any (.move rfl) rfl rfl rfl ?_
  refine W.rdg (Any.rd (.move rfl) _) rfl rfl rfl (rfl) rfl rfl ?_
  refine W.any (.pickT rfl rfl rfl) rfl rfl rfl ?_
  refine W.any (.move rfl) rfl rfl rfl ?_
  refine W.rdg (Any.rd (.move rfl) _) rfl rfl rfl (rfl) rfl rfl ?_
  refine W.any (.pickT rfl rfl rfl) rfl rfl rfl ?_
  refine W.any (.move rfl) rfl rfl rfl ?_
  refine W.rdg (Any.rd (.move rfl) _) rfl rfl rfl (rfl) rfl rfl ?_
  refine W.any (.pickT rfl rfl rfl) rfl rfl rfl ?_
  refine W.any (.move rfl) rfl rfl rfl ?_
  refine W.rdg (Any.rd (.field0 fa33_2 rfl) _) rfl rfl rfl (rfl) rfl rfl ?_
  refine W.rdg (.bpart [.int .i64 ((⟨9, 1, 0, 50, 30⟩ : Seat).h0), .int .i64 ((⟨9, 1, 0, 50, 30⟩ : Seat).h1)] ag31 rfl (by decide) rfl b8_6 rfl) rfl rfl rfl (rfl) rfl rfl ?_
  refine W.rdg (Any.rd (.buildA (cells := (pairV (⟨50, 30⟩ : Pair)).toArray) Try.underlying31 sz3 z31 rfl rfl) _) rfl rfl rfl (rfl) rfl rfl ?_
  refine W.rdg (Any.rd (.dec (.eqA eg31 rfl rfl (eqv_pairV (d := 9998) (⟨(⟨9, 1, 0, 50, 30⟩ : Seat).h0, (⟨9, 1, 0, 50, 30⟩ : Seat).h1⟩ : Pair) (⟨50, 30⟩ : Pair))) (show _ = true from by decide)) _) rfl rfl rfl (rfl) rfl rfl ?_
  refine W.any (.pickT rfl rfl rfl) rfl rfl rfl ?_
  refine W.any (.move rfl) rfl rfl rfl ?_
  refine W.rdg (Any.rd (.move rfl) _) rfl rfl rfl (rfl) rfl rfl ?_
  have f127 := ((f123.le (h8_1.trans h8_5)).ch h8_6 (fun q hqq hF => by cases hqq; have := f123.lt hF; have := h8_1.size; have := hg8_5; omega))
  refine W.efg rfl rfl rfl (rfl) rfl rfl ?_
  refine Ef.call go23 rfl rfl ((by have h := seats_led (s := s20) f127; rw [f3] at h; exact h)) ?_
  rintro _ w9_21 ⟨A9_21, c9_21, rfl, o9_21, h9_21⟩
  refine ⟨_, rfl, ?_⟩
  have L128 := L126.trans h9_21
  refine W.rdg (.len Try.underlying50 rfl) rfl rfl rfl (rfl) rfl rfl ?_
  refine W.rdg (Any.rd (.dec (.eql rfl rfl) (show _ = true from by decide)) _) rfl rfl rfl (rfl) rfl rfl ?_
  refine W.any (.pickT rfl rfl rfl) rfl rfl rfl ?_
  refine W.any (.move rfl) rfl rfl rfl ?_
  refine W.rdg (Any.rd (.move rfl) _) rfl rfl rfl (rfl) rfl rfl ?_
  have f129 := (f127.le h9_21)
  refine W.efg rfl rfl rfl (rfl) rfl rfl ?_
  refine Ef.call go20 rfl rfl ((by have h := total_led (s := s20) f129; rw [f4] at h; exact h)) ?_
  rintro _ w9_27 ⟨rfl, h9_27⟩
  refine ⟨_, rfl, ?_⟩
  have L130 := L128.trans h9_27
  refine W.rdg (Any.rd (.move rfl) _) rfl rfl rfl (rfl) rfl rfl ?_
  have f131 := (f129.le h9_27)
  refine W.efg rfl rfl rfl (rfl) rfl rfl ?_
  refine Ef.call go17 rfl rfl ((by have h := lost_led (s := s20) f131; rw [f5] at h; exact h)) ?_
  rintro _ w9_29 ⟨rfl, h9_29⟩
  refine ⟨_, rfl, ?_⟩
  have L132 := L130.trans h9_29
  refine W.rdg (Any.rd (.add rfl rfl (by omega)) _) rfl rfl rfl (rfl) rfl rfl ?_
  refine W.rdg (Any.rd (.dec (.eql rfl rfl) (show _ = true from by decide)) _) rfl rfl rfl (rfl) rfl rfl ?_
  refine W.any (.pickT rfl rfl rfl) rfl rfl rfl ?_
  refine W.any (.move rfl) rfl rfl rfl ?_
  refine W.rdg (Any.rd (.move rfl) _) rfl rfl rfl (rfl) rfl rfl ?_
  have f133 := (f131.le h9_29)
  refine W.efg rfl rfl rfl (rfl) rfl rfl ?_
  refine Ef.call go17 rfl rfl ((by have h := lost_led (s := s20) f133; rw [f5] at h; exact h)) ?_
  rintro _ w9_35 ⟨rfl, h9_35⟩
  refine ⟨_, rfl, ?_⟩
  have L134 := L132.trans h9_35
  refine W.rdg (Any.rd (.dec (.eql rfl rfl) (show _ = true from by decide)) _) rfl rfl rfl (rfl) rfl rfl ?_
  refine W.any (.pickT rfl rfl rfl) rfl rfl rfl ?_
  refine W.any (.assign rfl) rfl rfl rfl ?_
  refine W.nil ?_
  refine E.thenN ?_
  refine WC.ret ?_
  refine E.retG1 rfl rfl ?_
  exact ⟨rfl, L134⟩
end Go.Proofs.Ytnmcbdbpafhinaa

namespace Go.Proofs.Ytnmcbdbpafhinaa
open Go Go.Sx Go.Num Go.Gsp Go.Lsp
set_option maxRecDepth 20000
set_option linter.unusedSimpArgs false
set_option linter.unusedVariables false
def fourV (x : Four) : List Value := [.int .u16 ((x.a : Nat) : Int), .int .u16 ((x.b : Nat) : Int), .int .u16 ((x.c : Nat) : Int), .int .u16 ((x.d : Nat) : Int)]
theorem world46_ok {x : Four} (hx : x.ok) (w : World) : Calls Try.prog 12 #[.agg (fourV x).toArray] w fun r w' => ∃ gp F, r = .returned (.pointer (some ⟨gp, 0, none⟩)) ∧ LPool w' w.heap.size gp F (wS x) ∧ Le w w' := by
  have hx0 := hx
  obtain ⟨hx1, hx2, hx3, hx4⟩ := hx0
  refine enter Try.func12 rfl rfl ?_
  have L0 := Le.refl w
  refine WC.seq ?_
  refine WC.region ?_
  refine W.ef rfl rfl rfl ?_
  refine Ef.boxA rfl ?_
  intro g0_0 w0_0 hg0_0 b0_0 h0_0
  have L1 := L0.trans h0_0
  have b0_0 : Blk w0_0 g0_0 23 (fourV x).toArray := b0_0
  refine W.any (.assign rfl) rfl rfl rfl ?_
  refine W.nil ?_
  refine E.thenN ?_
  refine WC.seq ?_
  refine WC.region ?_
  refine W.ef rfl rfl rfl ?_
  refine Ef.buildSliceV (len := 3) [_, _, _] Try.underlying41 el3 rfl (by simp [Value.cells]) rfl (by decide) (by decide) ?_
  intro g1_0 w1_0 hg1_0 b1_0 h1_0
  have L2 := L1.trans h1_0
  have b1_0 : Blk w1_0 g1_0 3 (([200000, 200000, 200000]).map iv).flatten.toArray := b1_0
  have o1_0 : OVec w1_0 w0_0.heap.size 3 iv 1 (some ⟨g1_0, 0, none⟩) 3 3 ([200000, 200000, 200000]) := b1_0.ovec hg1_0 iv_row rfl rfl (by decide)
  refine W.ef rfl rfl rfl ?_
  refine Ef.call go18 rfl rfl (new_led w1_0 o1_0.vec (by decide)) ?_
  rintro _ w1_1 ⟨gp1_1, F1_1, rfl, p1_1, h1_1⟩
  refine ⟨_, rfl, ?_⟩
  have L3 := L2.trans h1_1
  refine W.any (.assign rfl) rfl rfl rfl ?_
  refine W.nil ?_
  refine E.thenN ?_
  refine WC.seq ?_
  refine WC.seq ?_
  refine WC.region ?_
  refine W.any (.move rfl) rfl rfl rfl ?_
  refine W.any (.dec (.isNilP (by kernel_rfl) rfl) rfl) rfl rfl rfl ?_
  refine W.nil ?_
  refine E.thenN ?_
  refine WC.condF rfl ?_
  refine WC.skip ?_
  refine E.thenN ?_
  refine WC.seq ?_
  refine WC.region ?_
  refine W.any (.move rfl) rfl rfl rfl ?_
  refine W.any (.buildA (cells := (pairV (⟨0, 1⟩ : Pair)).toArray) Try.underlying31 sz3 z31 rfl rfl) rfl rfl rfl ?_
  refine W.any (.idxAo (0) Try.underlying23 sz22 rfl rfl (rfl) (by omega)) rfl rfl rfl ?_
  have f4 := (b0_0.le (h1_0.trans h1_1))
  refine W.rd (.loadB (v := .int .u16 (((x.a : Nat) : Int))) na22 rfl f4 rfl) rfl rfl rfl ?_
  refine W.rd (.idI (isS Try.underlying22) Try.underlying3 rfl (IntWalk.i64_in _ (by omega))) rfl rfl rfl ?_
  refine W.any (.idxAo (1) Try.underlying23 sz22 rfl rfl (rfl) (by omega)) rfl rfl rfl ?_
  refine W.rd (.loadB (v := .int .u16 (((x.b : Nat) : Int))) na22 rfl f4 rfl) rfl rfl rfl ?_
  refine W.rd (.idI (isS Try.underlying22) Try.underlying3 rfl (IntWalk.i64_in _ (by omega))) rfl rfl rfl ?_
  refine W.any (.buildA (cells := (pairV (⟨((x.a : Nat) : Int), ((x.b : Nat) : Int)⟩ : Pair)).toArray) Try.underlying31 sz3 z31 rfl rfl) rfl rfl rfl ?_
  refine W.any (.buildP (seatV (⟨1, 0, 1, ((x.a : Nat) : Int), ((x.b : Nat) : Int)⟩ : Seat)) pl33 z33 rfl rfl) rfl rfl rfl ?_
  refine W.ef rfl rfl rfl ?_
  refine Ef.call go40 rfl rfl ((by have h := open_led (s := s3) (⟨1, 0, 1, ((x.a : Nat) : Int), ((x.b : Nat) : Int)⟩ : Seat) 0 p1_1; rw [world_1 hx] at h; exact h)) ?_
  rintro _ w4_10 ⟨F4_10, rfl, p4_10, g4_10, h4_10⟩
  refine ⟨_, rfl, ?_⟩
  have L5 := L3.chP_then h4_10 (fun i hi => Nat.le_trans L2.size (p1_1.old hi))
  have f6 := (o1_0.le h1_1)
  have zq7n := (show ¬ F1_1 g0_0 from (fun hF => by have := p1_1.old hF; have := b0_0.lt; have := h1_0.size; omega))
  have zq7 := f4.chP h4_10 zq7n
  have zq7g : ¬ F4_10 g0_0 := fun hF => (g4_10 _ hF).elim zq7n (fun hz => by have := f4.lt; omega)
  have zq8n := (show ∀ g, rowOf (some ⟨g1_0, 0, none⟩) 3 = some g → ¬ F1_1 g from (fun g hg hF => by have := p1_1.old hF;  have := (o1_0.row hg).2; omega))
  have zq8 := f6.chP h4_10 zq8n
  have zq8g : ∀ g, rowOf (some ⟨g1_0, 0, none⟩) 3 = some g → ¬ F4_10 g := fun g hg hF => (g4_10 _ hF).elim (zq8n g hg) (fun hz => by have := (f6.row hg).2; omega)
  refine W.any (.assign rfl) rfl rfl rfl ?_
  refine W.nil ?_
  refine E.thenN ?_
  refine WC.seq ?_
  refine WC.region ?_
  refine W.any (.move rfl) rfl rfl rfl ?_
  refine W.any (.buildA (cells := (pairV (⟨1, 2⟩ : Pair)).toArray) Try.underlying31 sz3 z31 rfl rfl) rfl rfl rfl ?_
  refine W.any (.idxAo (2) Try.underlying23 sz22 rfl rfl (rfl) (by omega)) rfl rfl rfl ?_
  refine W.rd (.loadB (v := .int .u16 (((x.c : Nat) : Int))) na22 rfl zq7 rfl) rfl rfl rfl ?_
  refine W.rd (.idI (isS Try.underlying22) Try.underlying3 rfl (IntWalk.i64_in _ (by omega))) rfl rfl rfl ?_
  refine W.any (.idxAo (3) Try.underlying23 sz22 rfl rfl (rfl) (by omega)) rfl rfl rfl ?_
  refine W.rd (.loadB (v := .int .u16 (((x.d : Nat) : Int))) na22 rfl zq7 rfl) rfl rfl rfl ?_
  refine W.rd (.idI (isS Try.underlying22) Try.underlying3 rfl (IntWalk.i64_in _ (by omega))) rfl rfl rfl ?_
  refine W.any (.buildA (cells := (pairV (⟨((x.c : Nat) : Int), ((x.d : Nat) : Int)⟩ : Pair)).toArray) Try.underlying31 sz3 z31 rfl rfl) rfl rfl rfl ?_
  refine W.any (.buildP (seatV (⟨2, 1, 2, ((x.c : Nat) : Int), ((x.d : Nat) : Int)⟩ : Seat)) pl33 z33 rfl rfl) rfl rfl rfl ?_
  refine W.ef rfl rfl rfl ?_
  refine Ef.call go40 rfl rfl ((by have h := open_led (s := (w1 x)) (⟨2, 1, 2, ((x.c : Nat) : Int), ((x.d : Nat) : Int)⟩ : Seat) 0 p4_10; rw [world_2 hx] at h; exact h)) ?_
  rintro _ w5_10 ⟨F5_10, rfl, p5_10, g5_10, h5_10⟩
  refine ⟨_, rfl, ?_⟩
  have L9 := L5.chP_then h5_10 (fun i hi => Nat.le_trans L2.size (p4_10.old hi))
  have zq10n := (show ¬ F4_10 g0_0 from zq7g)
  have zq10 := zq7.chP h5_10 zq10n
  have zq10g : ¬ F5_10 g0_0 := fun hF => (g5_10 _ hF).elim zq10n (fun hz => by have := zq7.lt; omega)
  have zq11n := (show ∀ g, rowOf (some ⟨g1_0, 0, none⟩) 3 = some g → ¬ F4_10 g from zq8g)
  have zq11 := zq8.chP h5_10 zq11n
  have zq11g : ∀ g, rowOf (some ⟨g1_0, 0, none⟩) 3 = some g → ¬ F5_10 g := fun g hg hF => (g5_10 _ hF).elim (zq11n g hg) (fun hz => by have := (zq8.row hg).2; omega)
  refine W.any (.assign rfl) rfl rfl rfl ?_
  refine W.nil ?_
  refine E.thenN ?_
  refine WC.seq ?_
  refine WC.seq ?_
  refine WC.region ?_
  refine W.any (.move rfl) rfl rfl rfl ?_
  refine W.any (.dec (.neq rfl rfl) (show _ = false from by first | decide | rfl)) rfl rfl rfl ?_
  refine W.any (.move rfl) rfl rfl rfl ?_
  refine W.rdg (Any.rd (.move rfl) _) rfl rfl rfl (rfl) rfl rfl ?_
  refine W.rdg (Any.rd (.dec (.neq rfl rfl) (show _ = false from by first | decide | rfl)) _) rfl rfl rfl (rfl) rfl rfl ?_
  refine W.any (.pickF rfl rfl rfl) rfl rfl rfl ?_
  refine W.nil ?_
  refine E.thenN ?_
  refine WC.condF rfl ?_
  refine WC.skip ?_
  refine E.thenN ?_
  refine WC.seq ?_
  refine WC.region ?_
  refine W.any (.move rfl) rfl rfl rfl ?_
  refine W.any (.assign rfl) rfl rfl rfl ?_
  refine W.nil ?_
  refine E.thenN ?_
  refine WC.ret ?_
  refine E.retG1 rfl rfl ?_
  exact ⟨_, _, rfl, (show LPool _ _ _ _ _ from by have hh := p5_10; obtain ⟨gs, gh, A, c, h1, h2, h3, h4⟩ := hh; exact ⟨gs, gh, A, c, h1, h2, h3, fun k hk => by have := h4 k hk; have := L2.size; omega⟩), L9⟩

theorem LedgerHolds_ok {x : Four} {ch side am sec oth : Nat} (hx : x.ok) (hch : ch < 256) (hsi : side < 256) (ham : am < 65536) (hse : sec < 18446744073709551616) (hot : oth < 18446744073709551616) (w : World) : Calls Try.prog 5 #[.agg (fourV x).toArray, .int .u8 (((ch : Nat) : Int)), .int .u8 (((side : Nat) : Int)), .int .u16 (((am : Nat) : Int)), .int .u64 (((sec : Nat) : Int)), .int .u64 (((oth : Nat) : Int))] w fun r w' => r = .returned (.bool true) ∧ Le w w' := by
  have hx0 := hx
  obtain ⟨hx1, hx2, hx3, hx4⟩ := hx0
  have hc : (1 + (((ch : Nat) : Int) % 2)) = 1 ∨ (1 + (((ch : Nat) : Int) % 2)) = 2 := by omega
  have hi : (((side : Nat) : Int) % 2) = 0 ∨ (((side : Nat) : Int) % 2) = 1 := by omega
  have hit : (((side : Nat) : Int) % 2).toNat = side % 2 := by omega
  have hit2 : (1 - (((side : Nat) : Int) % 2)).toNat = 1 - (side % 2) := by omega
  have hn : 1 ≤ (1 + ((am : Nat) : Int)) ∧ (1 + ((am : Nat) : Int)) ≤ 65536 := by omega
  have hp : (base (1 + (sec % 2305843009213688668))) ≠ 1 := base_ne_one (by simp only [q_def]; omega)
  have hr : right (base (1 + (sec % 2305843009213688668))) = true := right_base _
  have hsp := seat_party (x := x) hc hi
  rw [hit, hit2] at hsp
  refine enter Try.func5 rfl rfl ?_
  have L0 := Le.refl w
  refine WC.seq ?_
  refine WC.region ?_
  refine W.ef rfl rfl rfl ?_
  refine Ef.boxA rfl ?_
  intro g0_0 w0_0 hg0_0 b0_0 h0_0
  have L1 := L0.trans h0_0
  have b0_0 : Blk w0_0 g0_0 23 (fourV x).toArray := b0_0
  refine W.any (.assign rfl) rfl rfl rfl ?_
  refine W.nil ?_
  refine E.thenN ?_
  refine WC.seq ?_
  refine WC.region ?_
  refine W.ef rfl rfl rfl ?_
  refine Ef.call go11 rfl rfl (small46_ok w0_0) ?_
  rintro _ w1_0 ⟨rfl, h1_0⟩
  refine ⟨_, rfl, ?_⟩
  have L2 := L1.trans h1_0
  refine W.any (.assign rfl) rfl rfl rfl ?_
  refine W.nil ?_
  refine E.thenN ?_
  refine WC.seq ?_
  refine WC.region ?_
  have f3 := (b0_0.le h1_0)
  refine W.rd (.loadAll ag23 (by rfl) rfl f3) rfl rfl rfl ?_
  refine W.ef rfl rfl rfl ?_
  refine Ef.call go12 rfl rfl (world46_ok hx w1_0) ?_
  rintro _ w2_1 ⟨gp2_1, F2_1, rfl, p2_1, h2_1⟩
  refine ⟨_, rfl, ?_⟩
  have L4 := L2.trans h2_1
  refine W.any (.assign rfl) rfl rfl rfl ?_
  refine W.nil ?_
  refine E.thenN ?_
  refine WC.seq ?_
  refine WC.seq ?_
  refine WC.region ?_
  refine W.any (.move rfl) rfl rfl rfl ?_
  refine W.any (.dec (.isNilP (by kernel_rfl) rfl) rfl) rfl rfl rfl ?_
  refine W.nil ?_
  refine E.thenN ?_
  refine WC.condF rfl ?_
  refine WC.skip ?_
  refine E.thenN ?_
  refine WC.seq ?_
  refine WC.region ?_
  refine W.any (.move rfl) rfl rfl rfl ?_
  refine W.any (.rem8 rfl rfl (by omega)) rfl rfl rfl ?_
  refine W.rd (.idI (isS Try.underlying5) Try.underlying3 rfl (IntWalk.i64_in _ (by omega))) rfl rfl rfl ?_
  refine W.any (.add rfl rfl (by omega)) rfl rfl rfl ?_
  refine W.any (.assign rfl) rfl rfl rfl ?_
  refine W.nil ?_
  refine E.thenN ?_
  refine WC.seq ?_
  refine WC.region ?_
  refine W.any (.move rfl) rfl rfl rfl ?_
  refine W.any (.rem8 rfl rfl (by omega)) rfl rfl rfl ?_
  refine W.rd (.idI (isS Try.underlying5) Try.underlying3 rfl (IntWalk.i64_in _ (by omega))) rfl rfl rfl ?_
  refine W.any (.assign rfl) rfl rfl rfl ?_
  refine W.nil ?_
  refine E.thenN ?_
  refine WC.seq ?_
  refine WC.region ?_
  refine W.any (.move rfl) rfl rfl rfl ?_
  refine W.any (.move rfl) rfl rfl rfl ?_
  refine W.ef rfl rfl rfl ?_
  refine Ef.call go14 rfl rfl (seat_led (s := (wS x)) (1 + (((ch : Nat) : Int) % 2)) p2_1) ?_
  rintro _ w7_2 ⟨rfl, h7_2⟩
  refine ⟨_, rfl, ?_⟩
  have L5 := L4.trans h7_2
  refine W.any (.move rfl) rfl rfl rfl ?_
  refine W.any (.extract (v := .agg (seatV (seatAt' (wS x).ls (1 + (((ch : Nat) : Int) % 2)))).toArray) rfl rfl) rfl rfl rfl ?_
  refine W.any (.extract (v := .bool ((getG (1 + (((ch : Nat) : Int) % 2)) (wS x).ls).isSome)) rfl rfl) rfl rfl rfl ?_
  refine W.ef rfl rfl rfl ?_
  refine Ef.allocA z33 ?_
  intro g7_6 w7_6 hg7_6 b7_6 h7_6
  have L6 := L5.trans h7_6
  have b7_6 : Blk w7_6 g7_6 33 (seatV noSeat).toArray := b7_6
  refine W.ef0 rfl rfl ?_
  refine Ef.storeAll sz33 (by rfl) rfl rfl b7_6 (by rfl) (seatV_row.one (seatAt' (wS x).ls (1 + (((ch : Nat) : Int) % 2)))) ?_
  intro w7_7 b7_7 h7_7
  have b7_7 : Blk w7_7 g7_6 33 (seatV (seatAt' (wS x).ls (1 + (((ch : Nat) : Int) % 2)))).toArray := b7_7
  have L7 : Le w w7_7 := L6.then_ h7_7 (fun q hq => by cases hq; exact Nat.le_trans L5.size hg7_6)
  refine W.any (.assign rfl) rfl rfl rfl ?_
  refine W.nil ?_
  refine E.thenN ?_
  refine WC.seq ?_
  refine WC.region ?_
  refine W.any (.move rfl) rfl rfl rfl ?_
  refine W.any (.remN sec 2305843009213688668 (sec % 2305843009213688668) rfl rfl rfl rfl (by omega) (rfl)) rfl rfl rfl ?_
  refine W.any (.addN 1 (sec % 2305843009213688668) (1 + (sec % 2305843009213688668)) rfl rfl rfl rfl (by omega)) rfl rfl rfl ?_
  refine W.any (.assign rfl) rfl rfl rfl ?_
  refine W.nil ?_
  refine E.thenN ?_
  refine WC.seq ?_
  refine WC.region ?_
  refine W.any (.move rfl) rfl rfl rfl ?_
  refine W.rd (.idI (isS Try.underlying22) Try.underlying3 rfl (IntWalk.i64_in _ (by omega))) rfl rfl rfl ?_
  refine W.any (.add rfl rfl (by omega)) rfl rfl rfl ?_
  refine W.any (.assign rfl) rfl rfl rfl ?_
  refine W.nil ?_
  refine E.thenN ?_
  refine WC.seq ?_
  refine WC.region ?_
  refine W.any (.move rfl) rfl rfl rfl ?_
  refine W.any (.move rfl) rfl rfl rfl ?_
  refine W.any (.move rfl) rfl rfl rfl ?_
  refine W.any (.move rfl) rfl rfl rfl ?_
  refine W.any (.move rfl) rfl rfl rfl ?_
  refine W.ef rfl rfl rfl ?_
  refine Ef.call go25 rfl rfl (base_ok (1 + (sec % 2305843009213688668)) w7_7) ?_
  rintro _ w10_5 ⟨rfl, h10_5⟩
  refine ⟨_, rfl, ?_⟩
  have L8 := L7.trans h10_5
  by_cases qc10_6 : ((seatAt' (wS x).ls (1 + (((ch : Nat) : Int) % 2))).h (side % 2)) < (1 + ((am : Nat) : Int))
  · have eO : offerL (wS x) (1 + (((ch : Nat) : Int) % 2)) (((side : Nat) : Int) % 2) 5 (1 + ((am : Nat) : Int)) (base (1 + (sec % 2305843009213688668))) = (wS x, 8) := by rw [off_code hc hi hn hp hr, hit, if_pos qc10_6]
    have f9 := (((p2_1.le (h7_2.trans h7_6)).ch h7_7 (fun q hqq hF => by cases hqq; have := p2_1.lt hF; have := h7_2.size; have := hg7_6; omega)).le h10_5)
    refine W.ef rfl rfl rfl ?_
    refine Ef.call go24 rfl rfl ((by have h := offer_led (s := (wS x)) (1 + (((ch : Nat) : Int) % 2)) (((side : Nat) : Int) % 2) 5 (1 + ((am : Nat) : Int)) (base (1 + (sec % 2305843009213688668))) (Nat.lt_of_lt_of_le (scale_lt _ _) (by decide)) f9; rw [eO] at h; exact h)) ?_
    rintro _ w10_6 ⟨F10_6, rfl, p10_6, g10_6, h10_6⟩
    refine ⟨_, rfl, ?_⟩
    have L10 := L8.chP_then h10_6 (fun i hi => Nat.le_trans L2.size (f9.old hi))
    have f11 := (((f3.le (h2_1.trans (h7_2.trans h7_6))).ch h7_7 (fun h => (show g7_6 ≠ g0_0 from by have := f3.lt; have := h2_1.size; have := h7_2.size; omega) (Option.some.inj h))).le h10_5)
    have f12 := (b7_7.le h10_5)
    have zq13n := (show ¬ F2_1 g0_0 from (fun hF => by have := f9.old hF; have := f3.lt; omega))
    have zq13 := f11.chP h10_6 zq13n
    have zq13g : ¬ F10_6 g0_0 := fun hF => (g10_6 _ hF).elim zq13n (fun hz => by have := f11.lt; omega)
    have zq14n := (show ¬ F2_1 g7_6 from (fun hF => by have := p2_1.lt hF; have := h7_2.size; have := hg7_6; omega))
    have zq14 := f12.chP h10_6 zq14n
    have zq14g : ¬ F10_6 g7_6 := fun hF => (g10_6 _ hF).elim zq14n (fun hz => by have := f12.lt; omega)
    refine W.any (.assign rfl) rfl rfl rfl ?_
    refine W.nil ?_
    refine E.thenN ?_
    refine WC.seq ?_
    refine WC.seq ?_
    refine WC.region ?_
    refine W.any (.move rfl) rfl rfl rfl ?_
    refine W.any (.dec (.neq rfl rfl) (show _ = true from by first | decide | rfl)) rfl rfl rfl ?_
    refine W.nil ?_
    refine E.thenN ?_
    refine WC.condT rfl ?_
    refine WC.seq ?_
    refine WC.region ?_
    refine W.any (.move rfl) rfl rfl rfl ?_
    refine W.any (.move rfl) rfl rfl rfl ?_
    refine W.rdg (Any.rd (.move rfl) _) rfl rfl rfl (rfl) rfl rfl ?_
    refine W.rdg (Any.rd (.dec (.eql rfl rfl) (show _ = true from by first | decide | rfl)) _) rfl rfl rfl (rfl) rfl rfl ?_
    refine W.any (.pickT rfl rfl rfl) rfl rfl rfl ?_
    refine W.any (.move rfl) rfl rfl rfl ?_
    refine W.rdg (Any.rd (.move rfl) _) rfl rfl rfl (rfl) rfl rfl ?_
    refine W.rdg (Any.rd (.field0 fa33_2 rfl) _) rfl rfl rfl (rfl) rfl rfl ?_
    refine W.rdg (Any.rd (.idxAo ((side % 2)) Try.underlying31 sz3 rfl rfl (by omega) (by omega)) _) rfl rfl rfl (rfl) rfl rfl ?_
    refine W.rdg (.loadB (v := .int .i64 (((seatAt' (wS x).ls (1 + (((ch : Nat) : Int) % 2))).h (side % 2)))) na3 rfl zq14 (seatH_at (seatAt' (wS x).ls (1 + (((ch : Nat) : Int) % 2))) (by omega))) rfl rfl rfl (rfl) rfl rfl ?_
    refine W.rdg (Any.rd (.move rfl) _) rfl rfl rfl (rfl) rfl rfl ?_
    refine W.rdg (Any.rd (.dec (.lss rfl rfl) (decide_eq_true (by omega))) _) rfl rfl rfl (rfl) rfl rfl ?_
    refine W.any (.pickT rfl rfl rfl) rfl rfl rfl ?_
    refine W.any (.assign rfl) rfl rfl rfl ?_
    refine W.nil ?_
    refine E.thenN ?_
    refine WC.ret ?_
    refine E.thenR ?_
    refine E.retG1 rfl rfl ?_
    exact ⟨rfl, L10⟩
  · have eO : offerL (wS x) (1 + (((ch : Nat) : Int) % 2)) (((side : Nat) : Int) % 2) 5 (1 + ((am : Nat) : Int)) (base (1 + (sec % 2305843009213688668))) = ((offS x (1 + (((ch : Nat) : Int) % 2)) (((side : Nat) : Int) % 2) (1 + ((am : Nat) : Int)) (base (1 + (sec % 2305843009213688668)))), 0) := by rw [off_code hc hi hn hp hr, hit, if_neg qc10_6]
    have hf : ¬ (seatAt' (wS x).ls (1 + (((ch : Nat) : Int) % 2))).h (((side : Nat) : Int) % 2).toNat < (1 + ((am : Nat) : Int)) := by rw [hit]; exact qc10_6
    have v1 := off_worth hc hi hn hp hr hf ((seatAt' (wS x).ls (1 + (((ch : Nat) : Int) % 2))).p (side % 2)) (by omega)
    have v2 := off_worth hc hi hn hp hr hf ((seatAt' (wS x).ls (1 + (((ch : Nat) : Int) % 2))).p (1 - (side % 2))) (by omega)
    have v3 := off_held hc hi hn hp hr hf
    have v5 := set_worth hc hi hn hp hr hf
    rw [hit, hit2] at v5
    have v6 := fail_worth hc hi hn hp hr hf
    rw [hit] at v6
    have f15 := (((p2_1.le (h7_2.trans h7_6)).ch h7_7 (fun q hqq hF => by cases hqq; have := p2_1.lt hF; have := h7_2.size; have := hg7_6; omega)).le h10_5)
    refine W.ef rfl rfl rfl ?_
    refine Ef.call go24 rfl rfl ((by have h := offer_led (s := (wS x)) (1 + (((ch : Nat) : Int) % 2)) (((side : Nat) : Int) % 2) 5 (1 + ((am : Nat) : Int)) (base (1 + (sec % 2305843009213688668))) (Nat.lt_of_lt_of_le (scale_lt _ _) (by decide)) f15; rw [eO] at h; exact h)) ?_
    rintro _ w10_6_1 ⟨F10_6_1, rfl, p10_6_1, g10_6_1, h10_6_1⟩
    refine ⟨_, rfl, ?_⟩
    have L16 := L8.chP_then h10_6_1 (fun i hi => Nat.le_trans L2.size (f15.old hi))
    have f17 := (((f3.le (h2_1.trans (h7_2.trans h7_6))).ch h7_7 (fun h => (show g7_6 ≠ g0_0 from by have := f3.lt; have := h2_1.size; have := h7_2.size; omega) (Option.some.inj h))).le h10_5)
    have f18 := (b7_7.le h10_5)
    have zq19n := (show ¬ F2_1 g0_0 from (fun hF => by have := f15.old hF; have := f3.lt; omega))
    have zq19 := f17.chP h10_6_1 zq19n
    have zq19g : ¬ F10_6_1 g0_0 := fun hF => (g10_6_1 _ hF).elim zq19n (fun hz => by have := f17.lt; omega)
    have zq20n := (show ¬ F2_1 g7_6 from (fun hF => by have := p2_1.lt hF; have := h7_2.size; have := hg7_6; omega))
    have zq20 := f18.chP h10_6_1 zq20n
    have zq20g : ¬ F10_6_1 g7_6 := fun hF => (g10_6_1 _ hF).elim zq20n (fun hz => by have := f18.lt; omega)
    refine W.any (.assign rfl) rfl rfl rfl ?_
    refine W.nil ?_
    refine E.thenN ?_
    refine WC.seq ?_
    refine WC.seq ?_
    refine WC.region ?_
    refine W.any (.move rfl) rfl rfl rfl ?_
    refine W.any (.dec (.neq rfl rfl) (show _ = false from by first | decide | rfl)) rfl rfl rfl ?_
    refine W.nil ?_
    refine E.thenN ?_
    refine WC.condF rfl ?_
    refine WC.skip ?_
    refine E.thenN ?_
    refine WC.seq ?_
    refine WC.region ?_
    refine W.any (.move rfl) rfl rfl rfl ?_
    refine W.ef rfl rfl rfl ?_
    refine Ef.call go21 rfl rfl (copy_led p10_6_1) ?_
    rintro _ w13_1 ⟨gp13_1, F13_1, rfl, p13_1, h13_1⟩
    refine ⟨_, rfl, ?_⟩
    have L21 := L16.trans h13_1
    refine W.any (.assign rfl) rfl rfl rfl ?_
    refine W.nil ?_
    refine E.thenN ?_
    refine WC.seq ?_
    refine WC.region ?_
    refine W.any (.move rfl) rfl rfl rfl ?_
    refine W.any (.field0 fa33_1 rfl) rfl rfl rfl ?_
    refine W.any (.idxAo ((side % 2)) Try.underlying31 sz3 rfl rfl (by omega) (by omega)) rfl rfl rfl ?_
    have f22 := (zq20.le h13_1)
    refine W.rd (.loadB (v := .int .i64 (((seatAt' (wS x).ls (1 + (((ch : Nat) : Int) % 2))).p (side % 2)))) na3 rfl f22 (seatP_at (seatAt' (wS x).ls (1 + (((ch : Nat) : Int) % 2))) (by omega))) rfl rfl rfl ?_
    refine W.any (.assign rfl) rfl rfl rfl ?_
    refine W.nil ?_
    refine E.thenN ?_
    refine WC.seq ?_
    refine WC.region ?_
    refine W.any (.move rfl) rfl rfl rfl ?_
    refine W.any (.sub rfl rfl (by omega)) rfl rfl rfl ?_
    refine W.any (.field0 fa33_1 rfl) rfl rfl rfl ?_
    refine W.any (.idxAo ((1 - (side % 2))) Try.underlying31 sz3 rfl rfl (by omega) (by omega)) rfl rfl rfl ?_
    refine W.rd (.loadB (v := .int .i64 (((seatAt' (wS x).ls (1 + (((ch : Nat) : Int) % 2))).p (1 - (side % 2))))) na3 rfl f22 (seatP_at (seatAt' (wS x).ls (1 + (((ch : Nat) : Int) % 2))) (by omega))) rfl rfl rfl ?_
    refine W.any (.assign rfl) rfl rfl rfl ?_
    refine W.nil ?_
    refine E.thenN ?_
    refine WC.seq ?_
    refine WC.seq ?_
    refine WC.region ?_
    refine W.any (.move rfl) rfl rfl rfl ?_
    refine W.any (.dec (.isNilP (by kernel_rfl) rfl) rfl) rfl rfl rfl ?_
    refine W.any (.move rfl) rfl rfl rfl ?_
    refine W.rdg (Any.rd (.move rfl) _) rfl rfl rfl (rfl) rfl rfl ?_
    refine W.rdg (Any.rd (.move rfl) _) rfl rfl rfl (rfl) rfl rfl ?_
    have f23 := (p10_6_1.le h13_1)
    refine W.efg rfl rfl rfl (rfl) rfl rfl ?_
    refine Ef.call go15 rfl rfl ((by have h := worth_led (s := (offS x (1 + (((ch : Nat) : Int) % 2)) (((side : Nat) : Int) % 2) (1 + ((am : Nat) : Int)) (base (1 + (sec % 2305843009213688668))))) ((seatAt' (wS x).ls (1 + (((ch : Nat) : Int) % 2))).p (side % 2)) f23; rw [v1] at h; exact h)) ?_
    rintro _ w16_5 ⟨rfl, h16_5⟩
    refine ⟨_, rfl, ?_⟩
    have L24 := L21.trans h16_5
    refine W.rdg (Any.rd (.dec (.neq rfl rfl) (show _ = false from by first | decide | rfl)) _) rfl rfl rfl (rfl) rfl rfl ?_
    refine W.any (.pickF rfl rfl rfl) rfl rfl rfl ?_
    refine W.any (.move rfl) rfl rfl rfl ?_
    refine W.rdg (Any.rd (.move rfl) _) rfl rfl rfl (rfl) rfl rfl ?_
    refine W.rdg (Any.rd (.move rfl) _) rfl rfl rfl (rfl) rfl rfl ?_
    have f25 := (f23.le h16_5)
    refine W.efg rfl rfl rfl (rfl) rfl rfl ?_
    refine Ef.call go15 rfl rfl ((by have h := worth_led (s := (offS x (1 + (((ch : Nat) : Int) % 2)) (((side : Nat) : Int) % 2) (1 + ((am : Nat) : Int)) (base (1 + (sec % 2305843009213688668))))) ((seatAt' (wS x).ls (1 + (((ch : Nat) : Int) % 2))).p (1 - (side % 2))) f25; rw [v2] at h; exact h)) ?_
    rintro _ w16_11 ⟨rfl, h16_11⟩
    refine ⟨_, rfl, ?_⟩
    have L26 := L24.trans h16_11
    refine W.rdg (Any.rd (.dec (.neq rfl rfl) (show _ = false from by first | decide | rfl)) _) rfl rfl rfl (rfl) rfl rfl ?_
    refine W.any (.pickF rfl rfl rfl) rfl rfl rfl ?_
    refine W.any (.move rfl) rfl rfl rfl ?_
    refine W.rdg (Any.rd (.move rfl) _) rfl rfl rfl (rfl) rfl rfl ?_
    refine W.rdg (Any.rd (.move rfl) _) rfl rfl rfl (rfl) rfl rfl ?_
    refine W.rdg (Any.rd (.move rfl) _) rfl rfl rfl (rfl) rfl rfl ?_
    have f27 := (f25.le h16_11)
    refine W.efg rfl rfl rfl (rfl) rfl rfl ?_
    refine Ef.call go26 rfl rfl ((by have h := held_led (s := (offS x (1 + (((ch : Nat) : Int) % 2)) (((side : Nat) : Int) % 2) (1 + ((am : Nat) : Int)) (base (1 + (sec % 2305843009213688668))))) (1 + (((ch : Nat) : Int) % 2)) (((side : Nat) : Int) % 2) f27; rw [v3.1] at h; exact h)) ?_
    rintro _ w16_18 ⟨rfl, h16_18⟩
    refine ⟨_, rfl, ?_⟩
    have L28 := L26.trans h16_18
    refine W.rdg (Any.rd (.move rfl) _) rfl rfl rfl (rfl) rfl rfl ?_
    refine W.rdg (Any.rd (.dec (.neq rfl rfl) (decide_eq_false (by omega))) _) rfl rfl rfl (rfl) rfl rfl ?_
    refine W.any (.pickF rfl rfl rfl) rfl rfl rfl ?_
    refine W.any (.move rfl) rfl rfl rfl ?_
    refine W.rdg (Any.rd (.move rfl) _) rfl rfl rfl (rfl) rfl rfl ?_
    refine W.rdg (Any.rd (.move rfl) _) rfl rfl rfl (rfl) rfl rfl ?_
    refine W.rdg (Any.rd (.move rfl) _) rfl rfl rfl (rfl) rfl rfl ?_
    refine W.rdg (Any.rd (.sub rfl rfl (by omega)) _) rfl rfl rfl (rfl) rfl rfl ?_
    have f29 := (f27.le h16_18)
    refine W.efg rfl rfl rfl (rfl) rfl rfl ?_
    refine Ef.call go26 rfl rfl ((by have h := held_led (s := (offS x (1 + (((ch : Nat) : Int) % 2)) (((side : Nat) : Int) % 2) (1 + ((am : Nat) : Int)) (base (1 + (sec % 2305843009213688668))))) (1 + (((ch : Nat) : Int) % 2)) (1 - (((side : Nat) : Int) % 2)) f29; rw [v3.2] at h; exact h)) ?_
    rintro _ w16_27 ⟨rfl, h16_27⟩
    refine ⟨_, rfl, ?_⟩
    have L30 := L28.trans h16_27
    refine W.rdg (Any.rd (.dec (.neq rfl rfl) (show _ = false from by first | decide | rfl)) _) rfl rfl rfl (rfl) rfl rfl ?_
    refine W.any (.pickF rfl rfl rfl) rfl rfl rfl ?_
    refine W.nil ?_
    refine E.thenN ?_
    refine WC.condF rfl ?_
    refine WC.skip ?_
    refine E.thenN ?_
    refine WC.seq ?_
    refine WC.region ?_
    refine W.any (.move rfl) rfl rfl rfl ?_
    refine W.any (.move rfl) rfl rfl rfl ?_
    refine W.any (.move rfl) rfl rfl rfl ?_
    refine W.any (.move rfl) rfl rfl rfl ?_
    by_cases qc18_4 : base oth = (base (1 + (sec % 2305843009213688668)))
    · have eS : settleL (offS x (1 + (((ch : Nat) : Int) % 2)) (((side : Nat) : Int) % 2) (1 + ((am : Nat) : Int)) (base (1 + (sec % 2305843009213688668)))) (1 + (((ch : Nat) : Int) % 2)) (((side : Nat) : Int) % 2) 5 oth = ((setS x (1 + (((ch : Nat) : Int) % 2)) (((side : Nat) : Int) % 2) (1 + ((am : Nat) : Int)) (base (1 + (sec % 2305843009213688668)))), 0) := by rw [set_code hc hi hn hp hr hf, if_neg (not_not_intro qc18_4)]
      have hoe : oth % 2305843009213688669 = (1 + (sec % 2305843009213688668)) := by have := (base_inj oth (1 + (sec % 2305843009213688668))).1 qc18_4; simp only [q_def] at this; omega
      have f31 := (f29.le h16_27)
      refine W.ef rfl rfl rfl ?_
      refine Ef.call go27 rfl rfl ((by have h := settle_led (s := (offS x (1 + (((ch : Nat) : Int) % 2)) (((side : Nat) : Int) % 2) (1 + ((am : Nat) : Int)) (base (1 + (sec % 2305843009213688668))))) (1 + (((ch : Nat) : Int) % 2)) (((side : Nat) : Int) % 2) 5 oth f31; rw [eS] at h; exact h)) ?_
      rintro _ w18_4 ⟨F18_4, rfl, p18_4, g18_4, h18_4⟩
      refine ⟨_, rfl, ?_⟩
      have L32 := L30.chP_then h18_4 (fun i hi => Nat.le_trans L2.size (f31.old hi))
      have f33 := (zq19.le (h13_1.trans (h16_5.trans (h16_11.trans (h16_18.trans h16_27)))))
      have f34 := (f22.le (h16_5.trans (h16_11.trans (h16_18.trans h16_27))))
      have f35 := (p13_1.le (h16_5.trans (h16_11.trans (h16_18.trans h16_27))))
      have zq36n := (show ¬ F10_6_1 g0_0 from zq19g)
      have zq36 := f33.chP h18_4 zq36n
      have zq36g : ¬ F18_4 g0_0 := fun hF => (g18_4 _ hF).elim zq36n (fun hz => by have := f33.lt; omega)
      have zq37n := (show ¬ F10_6_1 g7_6 from zq20g)
      have zq37 := f34.chP h18_4 zq37n
      have zq37g : ¬ F18_4 g7_6 := fun hF => (g18_4 _ hF).elim zq37n (fun hz => by have := f34.lt; omega)
      have zq38n := (show ∀ k, F13_1 k → ¬ F10_6_1 k from (fun k h1 h2 => by have := f35.old h1;  have := p10_6_1.lt h2; omega))
      have zq38 := f35.chP h18_4 zq38n
      have zq38g : ∀ k, F13_1 k → ¬ F18_4 k := fun k hk hF => (g18_4 _ hF).elim (zq38n k hk) (fun hz => by have := f35.lt hk; omega)
      refine W.any (.assign rfl) rfl rfl rfl ?_
      refine W.nil ?_
      refine E.thenN ?_
      refine WC.seq ?_
      refine WC.region ?_
      refine W.any (.move rfl) rfl rfl rfl ?_
      refine W.any (.remN oth 2305843009213688669 (oth % 2305843009213688669) rfl rfl rfl rfl (by omega) (rfl)) rfl rfl rfl ?_
      refine W.any (.move rfl) rfl rfl rfl ?_
      refine W.any (.dec (.eql rfl rfl) (decide_eq_true (by omega))) rfl rfl rfl ?_
      refine W.any (.assign rfl) rfl rfl rfl ?_
      refine W.nil ?_
      refine E.thenN ?_
      refine WC.seq ?_
      refine WC.seq ?_
      refine WC.region ?_
      refine W.any (.move rfl) rfl rfl rfl ?_
      refine W.any (.dec (.eql rfl rfl) (show _ = true from by first | decide | rfl)) rfl rfl rfl ?_
      refine W.any (.move rfl) rfl rfl rfl ?_
      refine W.any (.dec (.bneq Try.underlying4 rfl rfl) rfl) rfl rfl rfl ?_
      refine W.any (.move rfl) rfl rfl rfl ?_
      refine W.rdg (Any.rd (.move rfl) _) rfl rfl rfl (rfl) rfl rfl ?_
      refine W.rdg (Any.rd (.dec (.neq rfl rfl) (show _ = false from by first | decide | rfl)) _) rfl rfl rfl (rfl) rfl rfl ?_
      refine W.rdg (Any.rd (.move rfl) _) rfl rfl rfl (rfl) rfl rfl ?_
      refine W.skip rfl rfl rfl (rfl) rfl rfl ?_
      refine W.skip rfl rfl rfl (rfl) rfl rfl ?_
      refine W.rdg (Any.rd (.pickF rfl rfl rfl) _) rfl rfl rfl (rfl) rfl rfl ?_
      refine W.any (.pickF rfl rfl rfl) rfl rfl rfl ?_
      refine W.nil ?_
      refine E.thenN ?_
      refine WC.condF rfl ?_
      refine WC.skip ?_
      refine E.thenN ?_
      refine WC.seq ?_
      refine WC.seq ?_
      refine WC.region ?_
      refine W.any (.move rfl) rfl rfl rfl ?_
      refine W.any (.not rfl) rfl rfl rfl ?_
      refine W.any (.move rfl) rfl rfl rfl ?_
      refine W.skip rfl rfl rfl (rfl) rfl rfl ?_
      refine W.skip rfl rfl rfl (rfl) rfl rfl ?_
      refine W.skip rfl rfl rfl (rfl) rfl rfl ?_
      refine W.skip rfl rfl rfl (rfl) rfl rfl ?_
      refine W.skip rfl rfl rfl (rfl) rfl rfl ?_
      refine W.skip rfl rfl rfl (rfl) rfl rfl ?_
      refine W.skip rfl rfl rfl (rfl) rfl rfl ?_
      refine W.skipu rfl rfl rfl rfl rfl ?_
      refine W.skipu rfl rfl rfl rfl rfl ?_
      refine W.skipu rfl rfl rfl rfl rfl ?_
      refine W.skipu rfl rfl rfl rfl rfl ?_
      refine W.skipu rfl rfl rfl rfl rfl ?_
      refine W.skipu rfl rfl rfl rfl rfl ?_
      refine W.skip rfl rfl rfl (rfl) rfl rfl ?_
      refine W.any (.pickF rfl rfl rfl) rfl rfl rfl ?_
      refine W.nil ?_
      refine E.thenN ?_
      refine WC.condF rfl ?_
      refine WC.skip ?_
      refine E.thenN ?_
      refine WC.seq ?_
      refine WC.region ?_
      refine W.any (.move rfl) rfl rfl rfl ?_
      refine W.any (.move rfl) rfl rfl rfl ?_
      refine W.any (.move rfl) rfl rfl rfl ?_
      refine W.ef rfl rfl rfl ?_
      refine Ef.call go28 rfl rfl ((by have h := fail_led (s := (offS x (1 + (((ch : Nat) : Int) % 2)) (((side : Nat) : Int) % 2) (1 + ((am : Nat) : Int)) (base (1 + (sec % 2305843009213688668))))) (1 + (((ch : Nat) : Int) % 2)) (((side : Nat) : Int) % 2) 5 zq38; rw [fail_code hc hi hn hp hr hf] at h; exact h)) ?_
      rintro _ w24_3 ⟨F24_3, rfl, p24_3, g24_3, h24_3⟩
      refine ⟨_, rfl, ?_⟩
      have L39 := L32.chP_then h24_3 (fun i hi => Nat.le_trans L16.size (zq38.old hi))
      have zq40n := (show ¬ F13_1 g0_0 from (fun hF => by have := zq38.old hF; have := zq19.lt; omega))
      have zq40 := zq36.chP h24_3 zq40n
      have zq40g : ¬ F24_3 g0_0 := fun hF => (g24_3 _ hF).elim zq40n (fun hz => by have := zq36.lt; omega)
      have zq41n := (show ∀ k, F18_4 k → ¬ F13_1 k from (fun k h1 h2 => zq38g k h2 h1))
      have zq41 := p18_4.chP h24_3 zq41n
      have zq41g : ∀ k, F18_4 k → ¬ F24_3 k := fun k hk hF => (g24_3 _ hF).elim (zq41n k hk) (fun hz => by have := p18_4.lt hk; omega)
      have zq42n := (show ¬ F13_1 g7_6 from (fun hF => by have := zq38.old hF; have := zq20.lt; omega))
      have zq42 := zq37.chP h24_3 zq42n
      have zq42g : ¬ F24_3 g7_6 := fun hF => (g24_3 _ hF).elim zq42n (fun hz => by have := zq37.lt; omega)
      refine W.any (.assign rfl) rfl rfl rfl ?_
      refine W.nil ?_
      refine E.thenN ?_
      refine WC.seq ?_
      refine WC.region ?_
      refine W.any (.move rfl) rfl rfl rfl ?_
      refine W.any (.move rfl) rfl rfl rfl ?_
      refine W.ef rfl rfl rfl ?_
      refine Ef.call go14 rfl rfl (seat_led (s := (failS x (1 + (((ch : Nat) : Int) % 2)) (((side : Nat) : Int) % 2) (1 + ((am : Nat) : Int)) (base (1 + (sec % 2305843009213688668))))) (1 + (((ch : Nat) : Int) % 2)) p24_3) ?_
      rintro _ w25_2 ⟨rfl, h25_2⟩
      refine ⟨_, rfl, ?_⟩
      have L43 := L39.trans h25_2
      refine W.any (.move rfl) rfl rfl rfl ?_
      refine W.any (.extract (v := .agg (seatV (seatAt' (failS x (1 + (((ch : Nat) : Int) % 2)) (((side : Nat) : Int) % 2) (1 + ((am : Nat) : Int)) (base (1 + (sec % 2305843009213688668)))).ls (1 + (((ch : Nat) : Int) % 2)))).toArray) rfl rfl) rfl rfl rfl ?_
      refine W.any (.extract (v := .bool ((getG (1 + (((ch : Nat) : Int) % 2)) (failS x (1 + (((ch : Nat) : Int) % 2)) (((side : Nat) : Int) % 2) (1 + ((am : Nat) : Int)) (base (1 + (sec % 2305843009213688668)))).ls).isSome)) rfl rfl) rfl rfl rfl ?_
      refine W.ef rfl rfl rfl ?_
      refine Ef.allocA z33 ?_
      intro g25_6 w25_6 hg25_6 b25_6 h25_6
      have L44 := L43.trans h25_6
      have b25_6 : Blk w25_6 g25_6 33 (seatV noSeat).toArray := b25_6
      refine W.ef0 rfl rfl ?_
      refine Ef.storeAll sz33 (by rfl) rfl rfl b25_6 (by rfl) (seatV_row.one (seatAt' (failS x (1 + (((ch : Nat) : Int) % 2)) (((side : Nat) : Int) % 2) (1 + ((am : Nat) : Int)) (base (1 + (sec % 2305843009213688668)))).ls (1 + (((ch : Nat) : Int) % 2)))) ?_
      intro w25_7 b25_7 h25_7
      have b25_7 : Blk w25_7 g25_6 33 (seatV (seatAt' (failS x (1 + (((ch : Nat) : Int) % 2)) (((side : Nat) : Int) % 2) (1 + ((am : Nat) : Int)) (base (1 + (sec % 2305843009213688668)))).ls (1 + (((ch : Nat) : Int) % 2)))).toArray := b25_7
      have L45 : Le w w25_7 := L44.then_ h25_7 (fun q hq => by cases hq; exact Nat.le_trans L43.size hg25_6)
      refine W.any (.assign rfl) rfl rfl rfl ?_
      refine W.nil ?_
      refine E.thenN ?_
      refine WC.seq ?_
      refine WC.region ?_
      refine W.any (.move rfl) rfl rfl rfl ?_
      refine W.any (.move rfl) rfl rfl rfl ?_
      refine W.rdg (Any.rd (.move rfl) _) rfl rfl rfl (rfl) rfl rfl ?_
      refine W.rdg (Any.rd (.move rfl) _) rfl rfl rfl (rfl) rfl rfl ?_
      have f46 := ((zq41.le (h25_2.trans h25_6)).ch h25_7 (fun q hqq hF => by cases hqq; have := zq41.lt hF; have := h25_2.size; have := hg25_6; omega))
      refine W.efg rfl rfl rfl (rfl) rfl rfl ?_
      refine Ef.call go15 rfl rfl ((by have h := worth_led (s := (setS x (1 + (((ch : Nat) : Int) % 2)) (((side : Nat) : Int) % 2) (1 + ((am : Nat) : Int)) (base (1 + (sec % 2305843009213688668))))) ((seatAt' (wS x).ls (1 + (((ch : Nat) : Int) % 2))).p (side % 2)) f46; rw [v5.1] at h; exact h)) ?_
      rintro _ w26_4 ⟨rfl, h26_4⟩
      refine ⟨_, rfl, ?_⟩
      have L47 := L45.trans h26_4
      refine W.rdg (Any.rd (.move rfl) _) rfl rfl rfl (rfl) rfl rfl ?_
      refine W.rdg (Any.rd (.sub rfl rfl (by omega)) _) rfl rfl rfl (rfl) rfl rfl ?_
      refine W.rdg (Any.rd (.dec (.eql rfl rfl) (decide_eq_true (by omega))) _) rfl rfl rfl (rfl) rfl rfl ?_
      refine W.any (.pickT rfl rfl rfl) rfl rfl rfl ?_
      refine W.any (.move rfl) rfl rfl rfl ?_
      refine W.rdg (Any.rd (.move rfl) _) rfl rfl rfl (rfl) rfl rfl ?_
      refine W.rdg (Any.rd (.move rfl) _) rfl rfl rfl (rfl) rfl rfl ?_
      have f48 := (f46.le h26_4)
      refine W.efg rfl rfl rfl (rfl) rfl rfl ?_
      refine Ef.call go15 rfl rfl ((by have h := worth_led (s := (setS x (1 + (((ch : Nat) : Int) % 2)) (((side : Nat) : Int) % 2) (1 + ((am : Nat) : Int)) (base (1 + (sec % 2305843009213688668))))) ((seatAt' (wS x).ls (1 + (((ch : Nat) : Int) % 2))).p (1 - (side % 2))) f48; rw [v5.2.1] at h; exact h)) ?_
      rintro _ w26_12 ⟨rfl, h26_12⟩
      refine ⟨_, rfl, ?_⟩
      have L49 := L47.trans h26_12
      refine W.rdg (Any.rd (.move rfl) _) rfl rfl rfl (rfl) rfl rfl ?_
      refine W.rdg (Any.rd (.add rfl rfl (by omega)) _) rfl rfl rfl (rfl) rfl rfl ?_
      refine W.rdg (Any.rd (.dec (.eql rfl rfl) (decide_eq_true (by omega))) _) rfl rfl rfl (rfl) rfl rfl ?_
      refine W.any (.pickT rfl rfl rfl) rfl rfl rfl ?_
      refine W.any (.move rfl) rfl rfl rfl ?_
      refine W.rdg (Any.rd (.move rfl) _) rfl rfl rfl (rfl) rfl rfl ?_
      refine W.rdg (Any.rd (.move rfl) _) rfl rfl rfl (rfl) rfl rfl ?_
      refine W.rdg (Any.rd (.move rfl) _) rfl rfl rfl (rfl) rfl rfl ?_
      have f50 := (f48.le h26_12)
      refine W.efg rfl rfl rfl (rfl) rfl rfl ?_
      refine Ef.call go26 rfl rfl ((by have h := held_led (s := (setS x (1 + (((ch : Nat) : Int) % 2)) (((side : Nat) : Int) % 2) (1 + ((am : Nat) : Int)) (base (1 + (sec % 2305843009213688668))))) (1 + (((ch : Nat) : Int) % 2)) (((side : Nat) : Int) % 2) f50; rw [v5.2.2] at h; exact h)) ?_
      rintro _ w26_21 ⟨rfl, h26_21⟩
      refine ⟨_, rfl, ?_⟩
      have L51 := L49.trans h26_21
      refine W.rdg (Any.rd (.dec (.eql rfl rfl) (show _ = true from by first | decide | rfl)) _) rfl rfl rfl (rfl) rfl rfl ?_
      refine W.any (.pickT rfl rfl rfl) rfl rfl rfl ?_
      refine W.any (.move rfl) rfl rfl rfl ?_
      refine W.rdg (Any.rd (.move rfl) _) rfl rfl rfl (rfl) rfl rfl ?_
      refine W.rdg (Any.rd (.dec (.eql rfl rfl) (show _ = true from by first | decide | rfl)) _) rfl rfl rfl (rfl) rfl rfl ?_
      refine W.any (.pickT rfl rfl rfl) rfl rfl rfl ?_
      refine W.any (.move rfl) rfl rfl rfl ?_
      have f52 := (b25_7.le (h26_4.trans (h26_12.trans h26_21)))
      refine W.rdg (.loadAll ag33 (by rfl) rfl f52) rfl rfl rfl (rfl) rfl rfl ?_
      have f53 := (((zq42.le (h25_2.trans h25_6)).ch h25_7 (fun h => (show g25_6 ≠ g7_6 from by have := zq42.lt; have := h25_2.size; omega) (Option.some.inj h))).le (h26_4.trans (h26_12.trans h26_21)))
      refine W.rdg (.loadAll ag33 (by rfl) rfl f53) rfl rfl rfl (rfl) rfl rfl ?_
      refine W.rdg (Any.rd (.dec (.eqA eg33 rfl rfl (eqv_seatV (d := 9997) _ _)) (decide_eq_true (by rw [fail_val hc hi hn hp hr hf]))) _) rfl rfl rfl (rfl) rfl rfl ?_
      refine W.any (.pickT rfl rfl rfl) rfl rfl rfl ?_
      refine W.any (.move rfl) rfl rfl rfl ?_
      refine W.rdg (Any.rd (.move rfl) _) rfl rfl rfl (rfl) rfl rfl ?_
      refine W.rdg (Any.rd (.move rfl) _) rfl rfl rfl (rfl) rfl rfl ?_
      have f54 := (((p24_3.le (h25_2.trans h25_6)).ch h25_7 (fun q hqq hF => by cases hqq; have := p24_3.lt hF; have := h25_2.size; have := hg25_6; omega)).le (h26_4.trans (h26_12.trans h26_21)))
      refine W.efg rfl rfl rfl (rfl) rfl rfl ?_
      refine Ef.call go15 rfl rfl ((by have h := worth_led (s := (failS x (1 + (((ch : Nat) : Int) % 2)) (((side : Nat) : Int) % 2) (1 + ((am : Nat) : Int)) (base (1 + (sec % 2305843009213688668))))) ((seatAt' (wS x).ls (1 + (((ch : Nat) : Int) % 2))).p (side % 2)) f54; rw [v6] at h; exact h)) ?_
      rintro _ w26_36 ⟨rfl, h26_36⟩
      refine ⟨_, rfl, ?_⟩
      have L55 := L51.trans h26_36
      refine W.rdg (Any.rd (.dec (.eql rfl rfl) (show _ = true from by first | decide | rfl)) _) rfl rfl rfl (rfl) rfl rfl ?_
      refine W.any (.pickT rfl rfl rfl) rfl rfl rfl ?_
      refine W.any (.assign rfl) rfl rfl rfl ?_
      refine W.nil ?_
      refine E.thenN ?_
      refine WC.ret ?_
      refine E.retG1 rfl rfl ?_
      exact ⟨rfl, L55⟩
    · have eS : settleL (offS x (1 + (((ch : Nat) : Int) % 2)) (((side : Nat) : Int) % 2) (1 + ((am : Nat) : Int)) (base (1 + (sec % 2305843009213688668)))) (1 + (((ch : Nat) : Int) % 2)) (((side : Nat) : Int) % 2) 5 oth = ((offS x (1 + (((ch : Nat) : Int) % 2)) (((side : Nat) : Int) % 2) (1 + ((am : Nat) : Int)) (base (1 + (sec % 2305843009213688668)))), 23) := by rw [set_code hc hi hn hp hr hf, if_pos qc18_4]
      have eS2 : settleL (offS x (1 + (((ch : Nat) : Int) % 2)) (((side : Nat) : Int) % 2) (1 + ((am : Nat) : Int)) (base (1 + (sec % 2305843009213688668)))) (1 + (((ch : Nat) : Int) % 2)) (((side : Nat) : Int) % 2) 5 (1 + (sec % 2305843009213688668)) = ((setS x (1 + (((ch : Nat) : Int) % 2)) (((side : Nat) : Int) % 2) (1 + ((am : Nat) : Int)) (base (1 + (sec % 2305843009213688668)))), 0) := by rw [set_code hc hi hn hp hr hf, if_neg (not_not_intro rfl)]
      have hoe : ¬ oth % 2305843009213688669 = (1 + (sec % 2305843009213688668)) := fun hh => qc18_4 ((base_inj oth (1 + (sec % 2305843009213688668))).2 (by simp only [q_def]; omega))
      have f56 := (f29.le h16_27)
      refine W.ef rfl rfl rfl ?_
      refine Ef.call go27 rfl rfl ((by have h := settle_led (s := (offS x (1 + (((ch : Nat) : Int) % 2)) (((side : Nat) : Int) % 2) (1 + ((am : Nat) : Int)) (base (1 + (sec % 2305843009213688668))))) (1 + (((ch : Nat) : Int) % 2)) (((side : Nat) : Int) % 2) 5 oth f56; rw [eS] at h; exact h)) ?_
      rintro _ w18_4_1 ⟨F18_4_1, rfl, p18_4_1, g18_4_1, h18_4_1⟩
      refine ⟨_, rfl, ?_⟩
      have L57 := L30.chP_then h18_4_1 (fun i hi => Nat.le_trans L2.size (f56.old hi))
      have f58 := (zq19.le (h13_1.trans (h16_5.trans (h16_11.trans (h16_18.trans h16_27)))))
      have f59 := (f22.le (h16_5.trans (h16_11.trans (h16_18.trans h16_27))))
      have f60 := (p13_1.le (h16_5.trans (h16_11.trans (h16_18.trans h16_27))))
      have zq61n := (show ¬ F10_6_1 g0_0 from zq19g)
      have zq61 := f58.chP h18_4_1 zq61n
      have zq61g : ¬ F18_4_1 g0_0 := fun hF => (g18_4_1 _ hF).elim zq61n (fun hz => by have := f58.lt; omega)
      have zq62n := (show ¬ F10_6_1 g7_6 from zq20g)
      have zq62 := f59.chP h18_4_1 zq62n
      have zq62g : ¬ F18_4_1 g7_6 := fun hF => (g18_4_1 _ hF).elim zq62n (fun hz => by have := f59.lt; omega)
      have zq63n := (show ∀ k, F13_1 k → ¬ F10_6_1 k from (fun k h1 h2 => by have := f60.old h1;  have := p10_6_1.lt h2; omega))
      have zq63 := f60.chP h18_4_1 zq63n
      have zq63g : ∀ k, F13_1 k → ¬ F18_4_1 k := fun k hk hF => (g18_4_1 _ hF).elim (zq63n k hk) (fun hz => by have := f60.lt hk; omega)
      refine W.any (.assign rfl) rfl rfl rfl ?_
      refine W.nil ?_
      refine E.thenN ?_
      refine WC.seq ?_
      refine WC.region ?_
      refine W.any (.move rfl) rfl rfl rfl ?_
      refine W.any (.remN oth 2305843009213688669 (oth % 2305843009213688669) rfl rfl rfl rfl (by omega) (rfl)) rfl rfl rfl ?_
      refine W.any (.move rfl) rfl rfl rfl ?_
      refine W.any (.dec (.eql rfl rfl) (decide_eq_false (by omega))) rfl rfl rfl ?_
      refine W.any (.assign rfl) rfl rfl rfl ?_
      refine W.nil ?_
      refine E.thenN ?_
      refine WC.seq ?_
      refine WC.seq ?_
      refine WC.region ?_
      refine W.any (.move rfl) rfl rfl rfl ?_
      refine W.any (.dec (.eql rfl rfl) (show _ = false from by first | decide | rfl)) rfl rfl rfl ?_
      refine W.any (.move rfl) rfl rfl rfl ?_
      refine W.any (.dec (.bneq Try.underlying4 rfl rfl) rfl) rfl rfl rfl ?_
      refine W.any (.move rfl) rfl rfl rfl ?_
      refine W.rdg (Any.rd (.move rfl) _) rfl rfl rfl (rfl) rfl rfl ?_
      refine W.rdg (Any.rd (.dec (.neq rfl rfl) (show _ = true from by first | decide | rfl)) _) rfl rfl rfl (rfl) rfl rfl ?_
      refine W.rdg (Any.rd (.move rfl) _) rfl rfl rfl (rfl) rfl rfl ?_
      refine W.rdg (Any.rd (.move rfl) _) rfl rfl rfl (rfl) rfl rfl ?_
      refine W.rdg (Any.rd (.dec (.neq rfl rfl) (show _ = false from by first | decide | rfl)) _) rfl rfl rfl (rfl) rfl rfl ?_
      refine W.rdg (Any.rd (.pickT rfl rfl rfl) _) rfl rfl rfl (rfl) rfl rfl ?_
      refine W.any (.pickF rfl rfl rfl) rfl rfl rfl ?_
      refine W.nil ?_
      refine E.thenN ?_
      refine WC.condF rfl ?_
      refine WC.skip ?_
      refine E.thenN ?_
      refine WC.seq ?_
      refine WC.seq ?_
      refine WC.region ?_
      refine W.any (.move rfl) rfl rfl rfl ?_
      refine W.any (.not rfl) rfl rfl rfl ?_
      refine W.any (.move rfl) rfl rfl rfl ?_
      refine W.rdg (Any.rd (.move rfl) _) rfl rfl rfl (rfl) rfl rfl ?_
      refine W.rdg (Any.rd (.move rfl) _) rfl rfl rfl (rfl) rfl rfl ?_
      refine W.rdg (Any.rd (.move rfl) _) rfl rfl rfl (rfl) rfl rfl ?_
      refine W.rdg (Any.rd (.move rfl) _) rfl rfl rfl (rfl) rfl rfl ?_
      refine W.efg rfl rfl rfl (rfl) rfl rfl ?_
      refine Ef.call go27 rfl rfl ((by have h := settle_led (s := (offS x (1 + (((ch : Nat) : Int) % 2)) (((side : Nat) : Int) % 2) (1 + ((am : Nat) : Int)) (base (1 + (sec % 2305843009213688668))))) (1 + (((ch : Nat) : Int) % 2)) (((side : Nat) : Int) % 2) 5 (1 + (sec % 2305843009213688668)) p18_4_1; rw [eS2] at h; exact h)) ?_
      rintro _ w22_7 ⟨F22_7, rfl, p22_7, g22_7, h22_7⟩
      refine ⟨_, rfl, ?_⟩
      have L64 := L57.chP_then h22_7 (fun i hi => Nat.le_trans L2.size (p18_4_1.old hi))
      have zq65n := (show ¬ F18_4_1 g0_0 from zq61g)
      have zq65 := zq61.chP h22_7 zq65n
      have zq65g : ¬ F22_7 g0_0 := fun hF => (g22_7 _ hF).elim zq65n (fun hz => by have := zq61.lt; omega)
      have zq66n := (show ¬ F18_4_1 g7_6 from zq62g)
      have zq66 := zq62.chP h22_7 zq66n
      have zq66g : ¬ F22_7 g7_6 := fun hF => (g22_7 _ hF).elim zq66n (fun hz => by have := zq62.lt; omega)
      have zq67n := (show ∀ k, F13_1 k → ¬ F18_4_1 k from zq63g)
      have zq67 := zq63.chP h22_7 zq67n
      have zq67g : ∀ k, F13_1 k → ¬ F22_7 k := fun k hk hF => (g22_7 _ hF).elim (zq67n k hk) (fun hz => by have := zq63.lt hk; omega)
      refine W.rdg (Any.rd (.dec (.neq rfl rfl) (show _ = false from by first | decide | rfl)) _) rfl rfl rfl (rfl) rfl rfl ?_
      refine W.rdg (Any.rd (.move rfl) _) rfl rfl rfl (rfl) rfl rfl ?_
      refine W.rdg (Any.rd (.move rfl) _) rfl rfl rfl (rfl) rfl rfl ?_
      refine W.rdg (Any.rd (.move rfl) _) rfl rfl rfl (rfl) rfl rfl ?_
      refine W.rdg (Any.rd (.move rfl) _) rfl rfl rfl (rfl) rfl rfl ?_
      refine W.rdg (Any.rd (.move rfl) _) rfl rfl rfl (rfl) rfl rfl ?_
      refine W.efg rfl rfl rfl (rfl) rfl rfl ?_
      refine Ef.call go27 rfl rfl ((by have h := settle_led (s := (setS x (1 + (((ch : Nat) : Int) % 2)) (((side : Nat) : Int) % 2) (1 + ((am : Nat) : Int)) (base (1 + (sec % 2305843009213688668))))) (1 + (((ch : Nat) : Int) % 2)) (((side : Nat) : Int) % 2) 5 (1 + (sec % 2305843009213688668)) p22_7; rw [set_again hc hi hn hp hr hf (1 + (sec % 2305843009213688668))] at h; exact h)) ?_
      rintro _ w22_14 ⟨F22_14, rfl, p22_14, g22_14, h22_14⟩
      refine ⟨_, rfl, ?_⟩
      have L68 := L64.chP_then h22_14 (fun i hi => Nat.le_trans L2.size (p22_7.old hi))
      have zq69n := (show ¬ F22_7 g0_0 from zq65g)
      have zq69 := zq65.chP h22_14 zq69n
      have zq69g : ¬ F22_14 g0_0 := fun hF => (g22_14 _ hF).elim zq69n (fun hz => by have := zq65.lt; omega)
      have zq70n := (show ¬ F22_7 g7_6 from zq66g)
      have zq70 := zq66.chP h22_14 zq70n
      have zq70g : ¬ F22_14 g7_6 := fun hF => (g22_14 _ hF).elim zq70n (fun hz => by have := zq66.lt; omega)
      have zq71n := (show ∀ k, F13_1 k → ¬ F22_7 k from zq67g)
      have zq71 := zq67.chP h22_14 zq71n
      have zq71g : ∀ k, F13_1 k → ¬ F22_14 k := fun k hk hF => (g22_14 _ hF).elim (zq71n k hk) (fun hz => by have := zq67.lt hk; omega)
      refine W.rdg (Any.rd (.dec (.neq rfl rfl) (show _ = false from by first | decide | rfl)) _) rfl rfl rfl (rfl) rfl rfl ?_
      refine W.rdg (Any.rd (.pickF rfl rfl rfl) _) rfl rfl rfl (rfl) rfl rfl ?_
      refine W.any (.pickT rfl rfl rfl) rfl rfl rfl ?_
      refine W.nil ?_
      refine E.thenN ?_
      refine WC.condF rfl ?_
      refine WC.skip ?_
      refine E.thenN ?_
      refine WC.seq ?_
      refine WC.region ?_
      refine W.any (.move rfl) rfl rfl rfl ?_
      refine W.any (.move rfl) rfl rfl rfl ?_
      refine W.any (.move rfl) rfl rfl rfl ?_
      refine W.ef rfl rfl rfl ?_
      refine Ef.call go28 rfl rfl ((by have h := fail_led (s := (offS x (1 + (((ch : Nat) : Int) % 2)) (((side : Nat) : Int) % 2) (1 + ((am : Nat) : Int)) (base (1 + (sec % 2305843009213688668))))) (1 + (((ch : Nat) : Int) % 2)) (((side : Nat) : Int) % 2) 5 zq71; rw [fail_code hc hi hn hp hr hf] at h; exact h)) ?_
      rintro _ w24_3_1 ⟨F24_3_1, rfl, p24_3_1, g24_3_1, h24_3_1⟩
      refine ⟨_, rfl, ?_⟩
      have L72 := L68.chP_then h24_3_1 (fun i hi => Nat.le_trans L16.size (zq71.old hi))
      have zq73n := (show ¬ F13_1 g0_0 from (fun hF => by have := zq71.old hF; have := zq19.lt; omega))
      have zq73 := zq69.chP h24_3_1 zq73n
      have zq73g : ¬ F24_3_1 g0_0 := fun hF => (g24_3_1 _ hF).elim zq73n (fun hz => by have := zq69.lt; omega)
      have zq74n := (show ∀ k, F22_14 k → ¬ F13_1 k from (fun k h1 h2 => zq71g k h2 h1))
      have zq74 := p22_14.chP h24_3_1 zq74n
      have zq74g : ∀ k, F22_14 k → ¬ F24_3_1 k := fun k hk hF => (g24_3_1 _ hF).elim (zq74n k hk) (fun hz => by have := p22_14.lt hk; omega)
      have zq75n := (show ¬ F13_1 g7_6 from (fun hF => by have := zq71.old hF; have := zq20.lt; omega))
      have zq75 := zq70.chP h24_3_1 zq75n
      have zq75g : ¬ F24_3_1 g7_6 := fun hF => (g24_3_1 _ hF).elim zq75n (fun hz => by have := zq70.lt; omega)
      refine W.any (.assign rfl) rfl rfl rfl ?_
      refine W.nil ?_
      refine E.thenN ?_
      refine WC.seq ?_
      refine WC.region ?_
      refine W.any (.move rfl) rfl rfl rfl ?_
      refine W.any (.move rfl) rfl rfl rfl ?_
      refine W.ef rfl rfl rfl ?_
      refine Ef.call go14 rfl rfl (seat_led (s := (failS x (1 + (((ch : Nat) : Int) % 2)) (((side : Nat) : Int) % 2) (1 + ((am : Nat) : Int)) (base (1 + (sec % 2305843009213688668))))) (1 + (((ch : Nat) : Int) % 2)) p24_3_1) ?_
      rintro _ w25_2_1 ⟨rfl, h25_2_1⟩
      refine ⟨_, rfl, ?_⟩
      have L76 := L72.trans h25_2_1
      refine W.any (.move rfl) rfl rfl rfl ?_
      refine W.any (.extract (v := .agg (seatV (seatAt' (failS x (1 + (((ch : Nat) : Int) % 2)) (((side : Nat) : Int) % 2) (1 + ((am : Nat) : Int)) (base (1 + (sec % 2305843009213688668)))).ls (1 + (((ch : Nat) : Int) % 2)))).toArray) rfl rfl) rfl rfl rfl ?_
      refine W.any (.extract (v := .bool ((getG (1 + (((ch : Nat) : Int) % 2)) (failS x (1 + (((ch : Nat) : Int) % 2)) (((side : Nat) : Int) % 2) (1 + ((am : Nat) : Int)) (base (1 + (sec % 2305843009213688668)))).ls).isSome)) rfl rfl) rfl rfl rfl ?_
      refine W.ef rfl rfl rfl ?_
      refine Ef.allocA z33 ?_
      intro g25_6_1 w25_6_1 hg25_6_1 b25_6_1 h25_6_1
      have L77 := L76.trans h25_6_1
      have b25_6_1 : Blk w25_6_1 g25_6_1 33 (seatV noSeat).toArray := b25_6_1
      refine W.ef0 rfl rfl ?_
      refine Ef.storeAll sz33 (by rfl) rfl rfl b25_6_1 (by rfl) (seatV_row.one (seatAt' (failS x (1 + (((ch : Nat) : Int) % 2)) (((side : Nat) : Int) % 2) (1 + ((am : Nat) : Int)) (base (1 + (sec % 2305843009213688668)))).ls (1 + (((ch : Nat) : Int) % 2)))) ?_
      intro w25_7_1 b25_7_1 h25_7_1
      have b25_7_1 : Blk w25_7_1 g25_6_1 33 (seatV (seatAt' (failS x (1 + (((ch : Nat) : Int) % 2)) (((side : Nat) : Int) % 2) (1 + ((am : Nat) : Int)) (base (1 + (sec % 2305843009213688668)))).ls (1 + (((ch : Nat) : Int) % 2)))).toArray := b25_7_1
      have L78 : Le w w25_7_1 := L77.then_ h25_7_1 (fun q hq => by cases hq; exact Nat.le_trans L76.size hg25_6_1)
      refine W.any (.assign rfl) rfl rfl rfl ?_
      refine W.nil ?_
      refine E.thenN ?_
      refine WC.seq ?_
      refine WC.region ?_
      refine W.any (.move rfl) rfl rfl rfl ?_
      refine W.any (.move rfl) rfl rfl rfl ?_
      refine W.rdg (Any.rd (.move rfl) _) rfl rfl rfl (rfl) rfl rfl ?_
      refine W.rdg (Any.rd (.move rfl) _) rfl rfl rfl (rfl) rfl rfl ?_
      have f79 := ((zq74.le (h25_2_1.trans h25_6_1)).ch h25_7_1 (fun q hqq hF => by cases hqq; have := zq74.lt hF; have := h25_2_1.size; have := hg25_6_1; omega))
      refine W.efg rfl rfl rfl (rfl) rfl rfl ?_
      refine Ef.call go15 rfl rfl ((by have h := worth_led (s := (setS x (1 + (((ch : Nat) : Int) % 2)) (((side : Nat) : Int) % 2) (1 + ((am : Nat) : Int)) (base (1 + (sec % 2305843009213688668))))) ((seatAt' (wS x).ls (1 + (((ch : Nat) : Int) % 2))).p (side % 2)) f79; rw [v5.1] at h; exact h)) ?_
      rintro _ w26_4_1 ⟨rfl, h26_4_1⟩
      refine ⟨_, rfl, ?_⟩
      have L80 := L78.trans h26_4_1
      refine W.rdg (Any.rd (.move rfl) _) rfl rfl rfl (rfl) rfl rfl ?_
      refine W.rdg (Any.rd (.sub rfl rfl (by omega)) _) rfl rfl rfl (rfl) rfl rfl ?_
      refine W.rdg (Any.rd (.dec (.eql rfl rfl) (decide_eq_true (by omega))) _) rfl rfl rfl (rfl) rfl rfl ?_
      refine W.any (.pickT rfl rfl rfl) rfl rfl rfl ?_
      refine W.any (.move rfl) rfl rfl rfl ?_
      refine W.rdg (Any.rd (.move rfl) _) rfl rfl rfl (rfl) rfl rfl ?_
      refine W.rdg (Any.rd (.move rfl) _) rfl rfl rfl (rfl) rfl rfl ?_
      have f81 := (f79.le h26_4_1)
      refine W.efg rfl rfl rfl (rfl) rfl rfl ?_
      refine Ef.call go15 rfl rfl ((by have h := worth_led (s := (setS x (1 + (((ch : Nat) : Int) % 2)) (((side : Nat) : Int) % 2) (1 + ((am : Nat) : Int)) (base (1 + (sec % 2305843009213688668))))) ((seatAt' (wS x).ls (1 + (((ch : Nat) : Int) % 2))).p (1 - (side % 2))) f81; rw [v5.2.1] at h; exact h)) ?_
      rintro _ w26_12_1 ⟨rfl, h26_12_1⟩
      refine ⟨_, rfl, ?_⟩
      have L82 := L80.trans h26_12_1
      refine W.rdg (Any.rd (.move rfl) _) rfl rfl rfl (rfl) rfl rfl ?_
      refine W.rdg (Any.rd (.add rfl rfl (by omega)) _) rfl rfl rfl (rfl) rfl rfl ?_
      refine W.rdg (Any.rd (.dec (.eql rfl rfl) (decide_eq_true (by omega))) _) rfl rfl rfl (rfl) rfl rfl ?_
      refine W.any (.pickT rfl rfl rfl) rfl rfl rfl ?_
      refine W.any (.move rfl) rfl rfl rfl ?_
      refine W.rdg (Any.rd (.move rfl) _) rfl rfl rfl (rfl) rfl rfl ?_
      refine W.rdg (Any.rd (.move rfl) _) rfl rfl rfl (rfl) rfl rfl ?_
      refine W.rdg (Any.rd (.move rfl) _) rfl rfl rfl (rfl) rfl rfl ?_
      have f83 := (f81.le h26_12_1)
      refine W.efg rfl rfl rfl (rfl) rfl rfl ?_
      refine Ef.call go26 rfl rfl ((by have h := held_led (s := (setS x (1 + (((ch : Nat) : Int) % 2)) (((side : Nat) : Int) % 2) (1 + ((am : Nat) : Int)) (base (1 + (sec % 2305843009213688668))))) (1 + (((ch : Nat) : Int) % 2)) (((side : Nat) : Int) % 2) f83; rw [v5.2.2] at h; exact h)) ?_
      rintro _ w26_21_1 ⟨rfl, h26_21_1⟩
      refine ⟨_, rfl, ?_⟩
      have L84 := L82.trans h26_21_1
      refine W.rdg (Any.rd (.dec (.eql rfl rfl) (show _ = true from by first | decide | rfl)) _) rfl rfl rfl (rfl) rfl rfl ?_
      refine W.any (.pickT rfl rfl rfl) rfl rfl rfl ?_
      refine W.any (.move rfl) rfl rfl rfl ?_
      refine W.rdg (Any.rd (.move rfl) _) rfl rfl rfl (rfl) rfl rfl ?_
      refine W.rdg (Any.rd (.dec (.eql rfl rfl) (show _ = true from by first | decide | rfl)) _) rfl rfl rfl (rfl) rfl rfl ?_
      refine W.any (.pickT rfl rfl rfl) rfl rfl rfl ?_
      refine W.any (.move rfl) rfl rfl rfl ?_
      have f85 := (b25_7_1.le (h26_4_1.trans (h26_12_1.trans h26_21_1)))
      refine W.rdg (.loadAll ag33 (by rfl) rfl f85) rfl rfl rfl (rfl) rfl rfl ?_
      have f86 := (((zq75.le (h25_2_1.trans h25_6_1)).ch h25_7_1 (fun h => (show g25_6_1 ≠ g7_6 from by have := zq75.lt; have := h25_2_1.size; omega) (Option.some.inj h))).le (h26_4_1.trans (h26_12_1.trans h26_21_1)))
      refine W.rdg (.loadAll ag33 (by rfl) rfl f86) rfl rfl rfl (rfl) rfl rfl ?_
      refine W.rdg (Any.rd (.dec (.eqA eg33 rfl rfl (eqv_seatV (d := 9997) _ _)) (decide_eq_true (by rw [fail_val hc hi hn hp hr hf]))) _) rfl rfl rfl (rfl) rfl rfl ?_
      refine W.any (.pickT rfl rfl rfl) rfl rfl rfl ?_
      refine W.any (.move rfl) rfl rfl rfl ?_
      refine W.rdg (Any.rd (.move rfl) _) rfl rfl rfl (rfl) rfl rfl ?_
      refine W.rdg (Any.rd (.move rfl) _) rfl rfl rfl (rfl) rfl rfl ?_
      have f87 := (((p24_3_1.le (h25_2_1.trans h25_6_1)).ch h25_7_1 (fun q hqq hF => by cases hqq; have := p24_3_1.lt hF; have := h25_2_1.size; have := hg25_6_1; omega)).le (h26_4_1.trans (h26_12_1.trans h26_21_1)))
      refine W.efg rfl rfl rfl (rfl) rfl rfl ?_
      refine Ef.call go15 rfl rfl ((by have h := worth_led (s := (failS x (1 + (((ch : Nat) : Int) % 2)) (((side : Nat) : Int) % 2) (1 + ((am : Nat) : Int)) (base (1 + (sec % 2305843009213688668))))) ((seatAt' (wS x).ls (1 + (((ch : Nat) : Int) % 2))).p (side % 2)) f87; rw [v6] at h; exact h)) ?_
      rintro _ w26_36_1 ⟨rfl, h26_36_1⟩
      refine ⟨_, rfl, ?_⟩
      have L88 := L84.trans h26_36_1
      refine W.rdg (Any.rd (.dec (.eql rfl rfl) (show _ = true from by first | decide | rfl)) _) rfl rfl rfl (rfl) rfl rfl ?_
      refine W.any (.pickT rfl rfl rfl) rfl rfl rfl ?_
      refine W.any (.assign rfl) rfl rfl rfl ?_
      refine W.nil ?_
      refine E.thenN ?_
      refine WC.ret ?_
      refine E.retG1 rfl rfl ?_
      exact ⟨rfl, L88⟩

end Go.Proofs.Ytnmcbdbpafhinaa

