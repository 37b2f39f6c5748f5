/- What a hop passes on (layer 33): told, passed, world, own, May, Next, Last, walked. -/
import Derived.Test.YtfgakofjkldcjaaGsp2
import Derived.Test.YtfgakofjkldcjaaPay
import Derived.Test.YtfgakofjkldcjaaHop
namespace Go.Proofs.Ytfgakofjkldcjaa
open Go Go.Sx Go.Hsp Go.Num Go.Osp Go.Gsp
set_option maxRecDepth 20000
set_option linter.unusedSimpArgs false
set_option linter.unusedVariables false
def condV (c : Cnd) : List Value := [.int .i64 c.fr, .int .i64 c.id, .int .i64 c.am, .int .u64 ((c.pt : Nat) : Int), .int .i64 c.ex]
theorem condV_row : RowF condV 5 := ⟨fun _ => rfl, fun x v hv => by simp [condV] at hv; rcases hv with rfl | rfl | rfl | rfl | rfl <;> rfl, by decide⟩
def bndV (b : Bnd) : List Value := [.int .i64 b.jam, .int .i64 b.bar, .int .i64 b.nap]
theorem bndV_row : RowF bndV 3 := ⟨fun _ => rfl, fun x v hv => by simp [bndV] at hv; rcases hv with rfl | rfl | rfl <;> rfl, by decide⟩
theorem told_ok (h : Hop) (w : World) : Calls Try.prog 96 #[.agg (hopV h).toArray] w fun r w' => r = .returned (.agg (condV (toldC h)).toArray) ∧ Le w w' := by
  refine enter Try.func96 rfl rfl ?_
  have L0 := Le.refl w
  refine WC.seq ?_
  refine WC.region ?_
  refine W.ef rfl rfl rfl ?_
  refine Ef.boxA rfl ?_
  intro g0_0 w0_0 hg0_0 b0_0 h0_0
  have L1 := L0.trans h0_0
  have b0_0 : Blk w0_0 g0_0 95 (hopV h).toArray := b0_0
  refine W.ef rfl rfl rfl ?_
  refine Ef.allocA z102 ?_
  intro g0_1 w0_1 hg0_1 b0_1 h0_1
  have L2 := L1.trans h0_1
  have b0_1 : Blk w0_1 g0_1 102 (condV noCnd).toArray := b0_1
  refine W.nil ?_
  refine E.thenN ?_
  refine WC.seq ?_
  refine WC.region ?_
  refine W.any (.field0 fa95_2 rfl) rfl rfl rfl ?_
  have f3 := (b0_0.le h0_1)
  refine W.rd (.loadB (v := .int .i64 (h.2.2.1)) na3 rfl f3 rfl) rfl rfl rfl ?_
  refine W.any (.field0 fa95_4 rfl) rfl rfl rfl ?_
  refine W.rd (.loadB (v := .int .u64 (((h.2.2.2.2.1 : Nat) : Int))) na31 rfl f3 rfl) rfl rfl rfl ?_
  refine W.any (.field0 fa95_3 rfl) rfl rfl rfl ?_
  refine W.rd (.loadB (v := .int .i64 (h.2.2.2.1)) na3 rfl f3 rfl) rfl rfl rfl ?_
  refine W.any (.buildP (condV (⟨0, 0, h.2.2.1, h.2.2.2.2.1, h.2.2.2.1⟩)) pl102 z102 rfl rfl) rfl rfl rfl ?_
  refine W.ef0 rfl rfl ?_
  refine Ef.storeAll sz102 (by rfl) rfl rfl b0_1 (by rfl) (condV_row.one (⟨0, 0, h.2.2.1, h.2.2.2.2.1, h.2.2.2.1⟩)) ?_
  intro w1_7 b1_7 h1_7
  have b1_7 : Blk w1_7 g0_1 102 (condV (⟨0, 0, h.2.2.1, h.2.2.2.2.1, h.2.2.2.1⟩)).toArray := b1_7
  have L4 : Le w w1_7 := L2.then_ h1_7 (fun q hq => by cases hq; exact Nat.le_trans L1.size hg0_1)
  refine W.nil ?_
  refine E.thenN ?_
  refine WC.ret ?_
  refine E.retG1 rfl (resA rfl b1_7 ag102 (by rfl)) ?_
  exact ⟨rfl, L4⟩

theorem passed_ok (c : Cnd) (hc : c.pt < 18446744073709551616) (w : World) : Calls Try.prog 100 #[.agg (condV c).toArray] w fun r w' => r = .returned (.bool (passedB c)) ∧ Le w w' := by
  refine enter Try.func100 rfl rfl ?_
  have L0 := Le.refl w
  refine WC.seq ?_
  refine WC.region ?_
  refine W.ef rfl rfl rfl ?_
  refine Ef.boxA rfl ?_
  intro g0_0 w0_0 hg0_0 b0_0 h0_0
  have L1 := L0.trans h0_0
  have b0_0 : Blk w0_0 g0_0 102 (condV c).toArray := b0_0
  refine W.any (.assign rfl) rfl rfl rfl ?_
  refine W.nil ?_
  refine E.thenN ?_
  refine WC.seq ?_
  refine WC.region ?_
  refine W.any (.field0 fa102_2 rfl) rfl rfl rfl ?_
  refine W.rd (.loadB (v := .int .i64 (c.am)) na3 rfl b0_0 rfl) rfl rfl rfl ?_
  refine W.ef rfl rfl rfl ?_
  refine Ef.call go98 rfl rfl (hin_ok c.am 1 1125899906842624 w0_0) ?_
  rintro _ w1_2 ⟨rfl, h1_2⟩
  refine ⟨_, rfl, ?_⟩
  have L2 := L1.trans h1_2
  by_cases q1_3 : inB c.am 1 1125899906842624 = true
  · refine W.any (.dec (.move rfl) (q1_3)) rfl rfl rfl ?_
    refine W.rdg (Any.rd (.field0 fa102_4 rfl) _) rfl rfl rfl (rfl) rfl rfl ?_
    have f3 := (b0_0.le h1_2)
    refine W.rdg (.loadB (v := .int .i64 (c.ex)) na3 rfl f3 rfl) rfl rfl rfl (rfl) rfl rfl ?_
    refine W.efg rfl rfl rfl (rfl) rfl rfl ?_
    refine Ef.call go98 rfl rfl (hin_ok c.ex 1 1048576 w1_2) ?_
    rintro _ w1_6 ⟨rfl, h1_6⟩
    refine ⟨_, rfl, ?_⟩
    have L4 := L2.trans h1_6
    refine W.any (.pickT rfl rfl rfl) rfl rfl rfl ?_
    by_cases q1_8 : inB c.ex 1 1048576 = true
    · refine W.any (.dec (.move rfl) (q1_8)) rfl rfl rfl ?_
      refine W.rdg (Any.rd (.field0 fa102_3 rfl) _) rfl rfl rfl (rfl) rfl rfl ?_
      have f5 := (f3.le h1_6)
      refine W.rdg (.loadB (v := .int .u64 (((c.pt : Nat) : Int))) na31 rfl f5 rfl) rfl rfl rfl (rfl) rfl rfl ?_
      refine W.rdg (Any.rd (.neq rfl rfl) _) rfl rfl rfl (rfl) rfl rfl ?_
      refine W.any (.pickT rfl rfl rfl) rfl rfl rfl ?_
      by_cases q1_13 : ((c.pt : Nat) : Int) ≠ 1
      · refine W.any (.dec (.move rfl) (decide_eq_true q1_13)) rfl rfl rfl ?_
        refine W.rdg (Any.rd (.field0 fa102_3 rfl) _) rfl rfl rfl (rfl) rfl rfl ?_
        refine W.rdg (.loadB (v := .int .u64 (((c.pt : Nat) : Int))) na31 rfl f5 rfl) rfl rfl rfl (rfl) rfl rfl ?_
        refine W.efg rfl rfl rfl (rfl) rfl rfl ?_
        refine Ef.call go90 rfl rfl (pright_ok c.pt hc w1_6) ?_
        rintro _ w1_16 ⟨rfl, h1_16⟩
        refine ⟨_, rfl, ?_⟩
        have L6 := L4.trans h1_16
        refine W.any (.pickT rfl rfl rfl) rfl rfl rfl ?_
        refine W.any (.assign rfl) rfl rfl rfl ?_
        refine W.nil ?_
        refine E.thenN ?_
        refine WC.ret ?_
        refine E.retG1 rfl rfl ?_
        exact ⟨congrArg (fun b => Ending.returned (Value.bool b)) (by unfold passedB; rw [Bool.eq_iff_iff]; simp only [Bool.and_eq_true, decide_eq_true_eq, Bool.false_eq_true, false_iff]; first | (simp [q1_3, q1_8, q1_13]; done) | (simp [q1_3, q1_8, q1_13]; omega)), L6⟩
      · refine W.any (.dec (.move rfl) (decide_eq_false q1_13)) rfl rfl rfl ?_
        refine W.skip rfl rfl rfl (rfl) rfl rfl ?_
        refine W.skip rfl rfl rfl (rfl) rfl rfl ?_
        refine W.skip rfl rfl rfl (rfl) rfl rfl ?_
        refine W.any (.pickF rfl rfl rfl) rfl rfl rfl ?_
        refine W.any (.assign rfl) rfl rfl rfl ?_
        refine W.nil ?_
        refine E.thenN ?_
        refine WC.ret ?_
        refine E.retG1 rfl rfl ?_
        exact ⟨congrArg (fun b => Ending.returned (Value.bool b)) (by unfold passedB; rw [Bool.eq_iff_iff]; simp only [Bool.and_eq_true, decide_eq_true_eq, Bool.false_eq_true, false_iff]; first | (simp [q1_3, q1_8, q1_13]; done) | (simp [q1_3, q1_8, q1_13]; omega)), L4⟩
    · refine W.any (.dec (.move rfl) ((Bool.eq_false_iff.2 q1_8))) rfl rfl rfl ?_
      refine W.skip rfl rfl rfl (rfl) rfl rfl ?_
      refine W.skip rfl rfl rfl (rfl) rfl rfl ?_
      refine W.skip rfl rfl rfl (rfl) rfl rfl ?_
      refine W.any (.pickF rfl rfl rfl) rfl rfl rfl ?_
      refine W.any (.move rfl) rfl rfl rfl ?_
      refine W.skip rfl rfl rfl (rfl) rfl rfl ?_
      refine W.skip rfl rfl rfl (rfl) rfl rfl ?_
      refine W.skip rfl rfl rfl (rfl) rfl rfl ?_
      refine W.any (.pickF rfl rfl rfl) rfl rfl rfl ?_
      refine W.any (.assign rfl) rfl rfl rfl ?_
      refine W.nil ?_
      refine E.thenN ?_
      refine WC.ret ?_
      refine E.retG1 rfl rfl ?_
      exact ⟨congrArg (fun b => Ending.returned (Value.bool b)) (by unfold passedB; rw [Bool.eq_iff_iff]; simp only [Bool.and_eq_true, decide_eq_true_eq, Bool.false_eq_true, false_iff]; first | (simp [q1_3, q1_8]; done) | (simp [q1_3, q1_8]; omega)), L4⟩
  · refine W.any (.dec (.move rfl) ((Bool.eq_false_iff.2 q1_3))) rfl rfl rfl ?_
    refine W.skip rfl rfl rfl (rfl) rfl rfl ?_
    refine W.skip rfl rfl rfl (rfl) rfl rfl ?_
    refine W.skip rfl rfl rfl (rfl) rfl rfl ?_
    refine W.any (.pickF rfl rfl rfl) rfl rfl rfl ?_
    refine W.any (.move rfl) rfl rfl rfl ?_
    refine W.skip rfl rfl rfl (rfl) rfl rfl ?_
    refine W.skip rfl rfl rfl (rfl) rfl rfl ?_
    refine W.skip rfl rfl rfl (rfl) rfl rfl ?_
    refine W.any (.pickF rfl rfl rfl) rfl rfl rfl ?_
    refine W.any (.move rfl) rfl rfl rfl ?_
    refine W.skip rfl rfl rfl (rfl) rfl rfl ?_
    refine W.skip rfl rfl rfl (rfl) rfl rfl ?_
    refine W.skip rfl rfl rfl (rfl) rfl rfl ?_
    refine W.any (.pickF rfl rfl rfl) rfl rfl rfl ?_
    refine W.any (.assign rfl) rfl rfl rfl ?_
    refine W.nil ?_
    refine E.thenN ?_
    refine WC.ret ?_
    refine E.retG1 rfl rfl ?_
    exact ⟨congrArg (fun b => Ending.returned (Value.bool b)) (by unfold passedB; rw [Bool.eq_iff_iff]; simp only [Bool.and_eq_true, decide_eq_true_eq, Bool.false_eq_true, false_iff]; first | (simp [q1_3]; done) | (simp [q1_3]; omega)), L2⟩

theorem world_ok (h : Int) (b : Bnd) (w : World) : Calls Try.prog 101 #[.int .i64 (h), .agg (bndV b).toArray] w fun r w' => r = .returned (.bool (worldB h b)) ∧ Le w w' := by
  refine enter Try.func101 rfl rfl ?_
  have L0 := Le.refl w
  refine WC.seq ?_
  refine WC.region ?_
  refine W.ef rfl rfl rfl ?_
  refine Ef.boxA rfl ?_
  intro g0_0 w0_0 hg0_0 b0_0 h0_0
  have L1 := L0.trans h0_0
  have b0_0 : Blk w0_0 g0_0 100 (bndV b).toArray := b0_0
  refine W.any (.assign rfl) rfl rfl rfl ?_
  refine W.nil ?_
  refine E.thenN ?_
  refine WC.seq ?_
  refine WC.region ?_
  refine W.any (.move rfl) rfl rfl rfl ?_
  refine W.ef rfl rfl rfl ?_
  refine Ef.call go98 rfl rfl (hin_ok h 0 1048576 w0_0) ?_
  rintro _ w1_1 ⟨rfl, h1_1⟩
  refine ⟨_, rfl, ?_⟩
  have L2 := L1.trans h1_1
  by_cases q1_2 : inB h 0 1048576 = true
  · refine W.any (.dec (.move rfl) (q1_2)) rfl rfl rfl ?_
    refine W.rdg (Any.rd (.field0 fa100_0 rfl) _) rfl rfl rfl (rfl) rfl rfl ?_
    have f3 := (b0_0.le h1_1)
    refine W.rdg (.loadB (v := .int .i64 (b.jam)) na3 rfl f3 rfl) rfl rfl rfl (rfl) rfl rfl ?_
    refine W.efg rfl rfl rfl (rfl) rfl rfl ?_
    refine Ef.call go98 rfl rfl (hin_ok b.jam 0 1000 w1_1) ?_
    rintro _ w1_5 ⟨rfl, h1_5⟩
    refine ⟨_, rfl, ?_⟩
    have L4 := L2.trans h1_5
    refine W.any (.pickT rfl rfl rfl) rfl rfl rfl ?_
    by_cases q1_7 : inB b.jam 0 1000 = true
    · refine W.any (.dec (.move rfl) (q1_7)) rfl rfl rfl ?_
      refine W.rdg (Any.rd (.field0 fa100_1 rfl) _) rfl rfl rfl (rfl) rfl rfl ?_
      have f5 := (f3.le h1_5)
      refine W.rdg (.loadB (v := .int .i64 (b.bar)) na3 rfl f5 rfl) rfl rfl rfl (rfl) rfl rfl ?_
      refine W.efg rfl rfl rfl (rfl) rfl rfl ?_
      refine Ef.call go98 rfl rfl (hin_ok b.bar 0 1000 w1_5) ?_
      rintro _ w1_10 ⟨rfl, h1_10⟩
      refine ⟨_, rfl, ?_⟩
      have L6 := L4.trans h1_10
      refine W.any (.pickT rfl rfl rfl) rfl rfl rfl ?_
      by_cases q1_12 : inB b.bar 0 1000 = true
      · refine W.any (.dec (.move rfl) (q1_12)) rfl rfl rfl ?_
        refine W.rdg (Any.rd (.field0 fa100_2 rfl) _) rfl rfl rfl (rfl) rfl rfl ?_
        have f7 := (f5.le h1_10)
        refine W.rdg (.loadB (v := .int .i64 (b.nap)) na3 rfl f7 rfl) rfl rfl rfl (rfl) rfl rfl ?_
        refine W.efg rfl rfl rfl (rfl) rfl rfl ?_
        refine Ef.call go98 rfl rfl (hin_ok b.nap 0 1000 w1_10) ?_
        rintro _ w1_15 ⟨rfl, h1_15⟩
        refine ⟨_, rfl, ?_⟩
        have L8 := L6.trans h1_15
        refine W.any (.pickT rfl rfl rfl) rfl rfl rfl ?_
        refine W.any (.assign rfl) rfl rfl rfl ?_
        refine W.nil ?_
        refine E.thenN ?_
        refine WC.ret ?_
        refine E.retG1 rfl rfl ?_
        exact ⟨congrArg (fun b => Ending.returned (Value.bool b)) (by simp [worldB, q1_2, q1_7, q1_12]), L8⟩
      · refine W.any (.dec (.move rfl) ((Bool.eq_false_iff.2 q1_12))) rfl rfl rfl ?_
        refine W.skip rfl rfl rfl (rfl) rfl rfl ?_
        refine W.skip rfl rfl rfl (rfl) rfl rfl ?_
        refine W.skip rfl rfl rfl (rfl) rfl rfl ?_
        refine W.any (.pickF rfl rfl rfl) rfl rfl rfl ?_
        refine W.any (.assign rfl) rfl rfl rfl ?_
        refine W.nil ?_
        refine E.thenN ?_
        refine WC.ret ?_
        refine E.retG1 rfl rfl ?_
        exact ⟨congrArg (fun b => Ending.returned (Value.bool b)) (by simp [worldB, q1_2, q1_7, q1_12]), L6⟩
    · refine W.any (.dec (.move rfl) ((Bool.eq_false_iff.2 q1_7))) rfl rfl rfl ?_
      refine W.skip rfl rfl rfl (rfl) rfl rfl ?_
      refine W.skip rfl rfl rfl (rfl) rfl rfl ?_
      refine W.skip rfl rfl rfl (rfl) rfl rfl ?_
      refine W.any (.pickF rfl rfl rfl) rfl rfl rfl ?_
      refine W.any (.move rfl) rfl rfl rfl ?_
      refine W.skip rfl rfl rfl (rfl) rfl rfl ?_
      refine W.skip rfl rfl rfl (rfl) rfl rfl ?_
      refine W.skip rfl rfl rfl (rfl) rfl rfl ?_
      refine W.any (.pickF rfl rfl rfl) rfl rfl rfl ?_
      refine W.any (.assign rfl) rfl rfl rfl ?_
      refine W.nil ?_
      refine E.thenN ?_
      refine WC.ret ?_
      refine E.retG1 rfl rfl ?_
      exact ⟨congrArg (fun b => Ending.returned (Value.bool b)) (by simp [worldB, q1_2, q1_7]), L4⟩
  · refine W.any (.dec (.move rfl) ((Bool.eq_false_iff.2 q1_2))) rfl rfl rfl ?_
    refine W.skip rfl rfl rfl (rfl) rfl rfl ?_
    refine W.skip rfl rfl rfl (rfl) rfl rfl ?_
    refine W.skip rfl rfl rfl (rfl) rfl rfl ?_
    refine W.any (.pickF rfl rfl rfl) rfl rfl rfl ?_
    refine W.any (.move rfl) rfl rfl rfl ?_
    refine W.skip rfl rfl rfl (rfl) rfl rfl ?_
    refine W.skip rfl rfl rfl (rfl) rfl rfl ?_
    refine W.skip rfl rfl rfl (rfl) rfl rfl ?_
    refine W.any (.pickF rfl rfl rfl) rfl rfl rfl ?_
    refine W.any (.move rfl) rfl rfl rfl ?_
    refine W.skip rfl rfl rfl (rfl) rfl rfl ?_
    refine W.skip rfl rfl rfl (rfl) rfl rfl ?_
    refine W.skip rfl rfl rfl (rfl) rfl rfl ?_
    refine W.any (.pickF rfl rfl rfl) rfl rfl rfl ?_
    refine W.any (.assign rfl) rfl rfl rfl ?_
    refine W.nil ?_
    refine E.thenN ?_
    refine WC.ret ?_
    refine E.retG1 rfl rfl ?_
    exact ⟨congrArg (fun b => Ending.returned (Value.bool b)) (by simp [worldB, q1_2]), L2⟩

theorem own_ok (h : Hop) (hp : h.2.2.2.2.1 < 18446744073709551616) (hr : right h.2.2.2.2.1 = true) (w : World) : Calls Try.prog 99 #[.agg (hopV h).toArray] w fun r w' => r = .returned (.int .u64 ((ownP h : Nat) : Int)) ∧ Le w w' := by
  refine enter Try.func99 rfl rfl ?_
  have L0 := Le.refl w
  refine WC.seq ?_
  refine WC.region ?_
  refine W.ef rfl rfl rfl ?_
  refine Ef.boxA rfl ?_
  intro g0_0 w0_0 hg0_0 b0_0 h0_0
  have L1 := L0.trans h0_0
  have b0_0 : Blk w0_0 g0_0 95 (hopV h).toArray := b0_0
  refine W.any (.assign rfl) rfl rfl rfl ?_
  refine W.nil ?_
  refine E.thenN ?_
  refine WC.seq ?_
  refine WC.region ?_
  refine W.any (.field0 fa95_4 rfl) rfl rfl rfl ?_
  refine W.rd (.loadB (v := .int .u64 (((h.2.2.2.2.1 : Nat) : Int))) na31 rfl b0_0 rfl) rfl rfl rfl ?_
  refine W.any (.field0 fa95_5 rfl) rfl rfl rfl ?_
  refine W.rd (.loadB (v := .int .u64 (((h.2.2.2.2.2 : Nat) : Int))) na30 rfl b0_0 rfl) rfl rfl rfl ?_
  refine W.ef rfl rfl rfl ?_
  refine Ef.buildSliceV (len := 1) [_] Try.underlying61 el30 rfl (by simp [Value.cells]) rfl (by decide) (by decide) ?_
  intro g1_4 w1_4 hg1_4 b1_4 h1_4
  have L2 := L1.trans h1_4
  have b1_4 : Blk w1_4 g1_4 30 (([h.2.2.2.2.2]).map pv1).flatten.toArray := b1_4
  have o1_4 : OVec w1_4 w0_0.heap.size 30 pv1 1 (some ⟨g1_4, 0, none⟩) 1 1 ([h.2.2.2.2.2]) := b1_4.ovec hg1_4 pv1_row rfl rfl (by decide)
  refine W.ef rfl rfl rfl ?_
  refine Ef.call go92 rfl rfl (pfrom_ok _ hp hr w1_4 (Vec.sl (g1 := pv) o1_4.vec) (by decide)) ?_
  rintro _ w1_5 ⟨gf, rfl, hgf, bf, h1_5⟩
  refine ⟨_, rfl, ?_⟩
  have L3 := L2.trans h1_5
  have of : OVec w1_5 _ 31 pv1 1 (some ⟨gf, 0, none⟩) 2 2 (fromP h.2.2.2.2.1 [h.2.2.2.2.2]) := bf.ovec hgf pv1_row (flat_sing (g1 := pv) _).symm rfl (by decide)
  refine W.any (.idxS (0) Try.underlying60 sz31 rfl rfl (of.vec.isSome pv1_row (by omega)) (rfl) (by omega)) rfl rfl rfl ?_
  refine W.rd (.vone (v := .int .u64 ((((ownP h) : Nat) : Int))) na31 rfl of.vec pv1_row (rfl) rfl) rfl rfl rfl ?_
  refine W.any (.assign rfl) rfl rfl rfl ?_
  refine W.nil ?_
  refine E.thenN ?_
  refine WC.ret ?_
  refine E.retG1 rfl rfl ?_
  exact ⟨rfl, L3⟩

theorem may_ok2 (x y : Cnd) (p : Pol) (h : Int) (b : Bnd) (hx : x.pt < 18446744073709551616) (hy : y.pt < 18446744073709551616) (hp : PolI p) (w : World) : Calls Try.prog 97 #[.agg (condV x).toArray, .agg (condV y).toArray, .agg (polV p).toArray, .int .i64 (h), .agg (bndV b).toArray] w fun r w' => r = .returned (.int .i64 (mayE x y p h b)) ∧ Le w w' := by
  refine enter Try.func97 rfl rfl ?_
  have L0 := Le.refl w
  refine WC.seq ?_
  refine WC.region ?_
  refine W.ef rfl rfl rfl ?_
  refine Ef.boxA rfl ?_
  intro g0_0 w0_0 hg0_0 b0_0 h0_0
  have L1 := L0.trans h0_0
  have b0_0 : Blk w0_0 g0_0 102 (condV x).toArray := b0_0
  refine W.ef rfl rfl rfl ?_
  refine Ef.boxA rfl ?_
  intro g0_1 w0_1 hg0_1 b0_1 h0_1
  have L2 := L1.trans h0_1
  have b0_1 : Blk w0_1 g0_1 102 (condV y).toArray := b0_1
  refine W.ef rfl rfl rfl ?_
  refine Ef.boxA rfl ?_
  intro g0_2 w0_2 hg0_2 b0_2 h0_2
  have L3 := L2.trans h0_2
  have b0_2 : Blk w0_2 g0_2 74 (polV p).toArray := b0_2
  refine W.ef rfl rfl rfl ?_
  refine Ef.boxA rfl ?_
  intro g0_3 w0_3 hg0_3 b0_3 h0_3
  have L4 := L3.trans h0_3
  have b0_3 : Blk w0_3 g0_3 100 (bndV b).toArray := b0_3
  refine W.any (.assign rfl) rfl rfl rfl ?_
  refine W.nil ?_
  refine E.thenN ?_
  refine WC.seq ?_
  refine WC.seq ?_
  refine WC.region ?_
  have f5 := (b0_2.le h0_3)
  refine W.rd (.loadAll ag74 (by rfl) rfl f5) rfl rfl rfl ?_
  refine W.ef rfl rfl rfl ?_
  refine Ef.call go81 rfl rfl (hright_ok p w0_3) ?_
  rintro _ w1_1 ⟨rfl, h1_1⟩
  refine ⟨_, rfl, ?_⟩
  have L6 := L4.trans h1_1
  refine W.any (.not rfl) rfl rfl rfl ?_
  by_cases q1_3 : polOk p = true
  · refine W.any (.dec (.move rfl) (congrArg not (q1_3))) rfl rfl rfl ?_
    have f7 := (b0_0.le (h0_1.trans (h0_2.trans (h0_3.trans h1_1))))
    refine W.rdg (.loadAll ag102 (by rfl) rfl f7) rfl rfl rfl (rfl) rfl rfl ?_
    refine W.efg rfl rfl rfl (rfl) rfl rfl ?_
    refine Ef.call go100 rfl rfl (passed_ok x hx w1_1) ?_
    rintro _ w1_5 ⟨rfl, h1_5⟩
    refine ⟨_, rfl, ?_⟩
    have L8 := L6.trans h1_5
    refine W.rdg (Any.rd (.not rfl) _) rfl rfl rfl (rfl) rfl rfl ?_
    refine W.any (.pickF rfl rfl rfl) rfl rfl rfl ?_
    by_cases q1_8 : passedB x = true
    · refine W.any (.dec (.move rfl) (congrArg not (q1_8))) rfl rfl rfl ?_
      have f9 := (b0_1.le (h0_2.trans (h0_3.trans (h1_1.trans h1_5))))
      refine W.rdg (.loadAll ag102 (by rfl) rfl f9) rfl rfl rfl (rfl) rfl rfl ?_
      refine W.efg rfl rfl rfl (rfl) rfl rfl ?_
      refine Ef.call go100 rfl rfl (passed_ok y hy w1_5) ?_
      rintro _ w1_10 ⟨rfl, h1_10⟩
      refine ⟨_, rfl, ?_⟩
      have L10 := L8.trans h1_10
      refine W.rdg (Any.rd (.not rfl) _) rfl rfl rfl (rfl) rfl rfl ?_
      refine W.any (.pickF rfl rfl rfl) rfl rfl rfl ?_
      by_cases q1_13 : passedB y = true
      · refine W.any (.dec (.move rfl) (congrArg not (q1_13))) rfl rfl rfl ?_
        refine W.rdg (Any.rd (.move rfl) _) rfl rfl rfl (rfl) rfl rfl ?_
        have f11 := (b0_3.le (h1_1.trans (h1_5.trans h1_10)))
        refine W.rdg (.loadAll ag100 (by rfl) rfl f11) rfl rfl rfl (rfl) rfl rfl ?_
        refine W.efg rfl rfl rfl (rfl) rfl rfl ?_
        refine Ef.call go101 rfl rfl (world_ok h b w1_10) ?_
        rintro _ w1_16 ⟨rfl, h1_16⟩
        refine ⟨_, rfl, ?_⟩
        have L12 := L10.trans h1_16
        refine W.rdg (Any.rd (.not rfl) _) rfl rfl rfl (rfl) rfl rfl ?_
        refine W.any (.pickF rfl rfl rfl) rfl rfl rfl ?_
        refine W.nil ?_
        refine E.thenN ?_
        by_cases c0 : worldB h b = true
        · refine WC.condN rfl (congrArg not (c0)) ?_
          have hpx := passedB_T (by assumption : passedB x = true)
          have hpy := passedB_T (by assumption : passedB y = true)
          have hwd := worldB_T (by assumption : worldB h b = true)
          refine WC.skip ?_
          refine E.thenN ?_
          refine WC.seq ?_
          refine WC.region ?_
          have f13 := (f5.le (h1_1.trans (h1_5.trans (h1_10.trans h1_16))))
          refine W.rd (.loadAll ag74 (by rfl) rfl f13) rfl rfl rfl ?_
          refine W.any (.field0 fa102_2 rfl) rfl rfl rfl ?_
          have f14 := (f9.le (h1_10.trans h1_16))
          refine W.rd (.loadB (v := .int .i64 (y.am)) na3 rfl f14 rfl) rfl rfl rfl ?_
          refine W.ef rfl rfl rfl ?_
          refine Ef.call go39 rfl rfl (hfee_ok p y.am hp w1_16) ?_
          rintro _ w3_3 ⟨rfl, h3_3⟩
          refine ⟨_, rfl, ?_⟩
          have L15 := L12.trans h3_3
          refine W.any (.move rfl) rfl rfl rfl ?_
          refine W.any (.extract (v := .int .i64 ((feeG p y.am).1)) rfl rfl) rfl rfl rfl ?_
          refine W.any (.extract (v := .bool ((feeG p y.am).2)) rfl rfl) rfl rfl rfl ?_
          refine W.any (.assign rfl) rfl rfl rfl ?_
          refine W.any (.assign rfl) rfl rfl rfl ?_
          refine W.nil ?_
          refine E.thenN ?_
          refine WC.seq ?_
          refine WC.block ?_
          refine WC.seq ?_
          refine WC.block ?_
          refine WC.block ?_
          refine WC.seq ?_
          refine WC.block ?_
          refine WC.seq ?_
          refine WC.block ?_
          refine WC.seq ?_
          refine WC.seq ?_
          refine WC.seq ?_
          refine WC.region ?_
          refine W.any (.field0 fa102_2 rfl) rfl rfl rfl ?_
          have f16 := (f14.le h3_3)
          refine W.rd (.loadB (v := .int .i64 (y.am)) na3 rfl f16 rfl) rfl rfl rfl ?_
          refine W.any (.field0 fa74_3 rfl) rfl rfl rfl ?_
          have f17 := (f13.le h3_3)
          refine W.rd (.loadB (v := .int .i64 (p.l)) na3 rfl f17 rfl) rfl rfl rfl ?_
          refine W.any (.field0 fa74_4 rfl) rfl rfl rfl ?_
          refine W.rd (.loadB (v := .int .i64 (p.m)) na3 rfl f17 rfl) rfl rfl rfl ?_
          refine W.ef rfl rfl rfl ?_
          refine Ef.call go98 rfl rfl (hin_ok y.am p.l p.m w3_3) ?_
          rintro _ w4_6 ⟨rfl, h4_6⟩
          refine ⟨_, rfl, ?_⟩
          have L18 := L15.trans h4_6
          refine W.any (.not rfl) rfl rfl rfl ?_
          refine W.any (.assign rfl) rfl rfl rfl ?_
          refine W.nil ?_
          refine E.thenN ?_
          by_cases c1 : inB y.am p.l p.m = true
          · refine WC.condN rfl (congrArg not (c1)) ?_
            refine WC.skip ?_
            refine E.thenN ?_
            refine WC.seq ?_
            refine WC.seq ?_
            refine WC.region ?_
            refine W.any (.move rfl) rfl rfl rfl ?_
            refine W.any (.not rfl) rfl rfl rfl ?_
            by_cases q5_2 : (feeG p y.am).2 = true
            · refine W.any (.dec (.move rfl) (congrArg not (q5_2))) rfl rfl rfl ?_
              refine W.rdg (Any.rd (.field0 fa102_2 rfl) _) rfl rfl rfl (rfl) rfl rfl ?_
              have f19 := (f7.le (h1_5.trans (h1_10.trans (h1_16.trans (h3_3.trans h4_6)))))
              refine W.rdg (.loadB (v := .int .i64 (x.am)) na3 rfl f19 rfl) rfl rfl rfl (rfl) rfl rfl ?_
              refine W.rdg (Any.rd (.field0 fa102_2 rfl) _) rfl rfl rfl (rfl) rfl rfl ?_
              have f20 := (f16.le h4_6)
              refine W.rdg (.loadB (v := .int .i64 (y.am)) na3 rfl f20 rfl) rfl rfl rfl (rfl) rfl rfl ?_
              refine W.rdg (Any.rd (.sub rfl rfl (by omega)) _) rfl rfl rfl (rfl) rfl rfl ?_
              refine W.rdg (Any.rd (.move rfl) _) rfl rfl rfl (rfl) rfl rfl ?_
              refine W.rdg (Any.rd (.lss rfl rfl) _) rfl rfl rfl (rfl) rfl rfl ?_
              refine W.any (.pickF rfl rfl rfl) rfl rfl rfl ?_
              refine W.any (.assign rfl) rfl rfl rfl ?_
              refine W.nil ?_
              refine E.thenN ?_
              by_cases c2 : (x.am - y.am) < ((feeG p y.am).1)
              · refine WC.condY rfl (decide_eq_true c2) ?_
                refine WC.exit ?_
                refine E.thenX ?_
                refine E.thenX ?_
                refine E.blkX rfl ?_
                refine E.thenX ?_
                refine E.blkH ?_
                refine E.thenN ?_
                refine WC.seq ?_
                refine WC.seq ?_
                refine WC.region ?_
                refine W.any (.assign rfl) rfl rfl rfl ?_
                refine W.nil ?_
                refine E.thenN ?_
                refine WC.ret ?_
                refine E.thenR ?_
                refine E.blkR ?_
                refine E.blkR ?_
                refine E.thenR ?_
                refine E.blkR ?_
                refine E.thenR ?_
                refine E.retG1 rfl rfl ?_
                exact ⟨by unfold mayE; first | (simp [q1_3, q1_8, q1_13, c0, c1, q5_2, c2]; done) | (simp [q1_3, q1_8, q1_13, c0, c1, q5_2, c2]; omega), L18⟩
              · refine WC.condN rfl (decide_eq_false c2) ?_
                refine WC.skip ?_
                refine E.thenN ?_
                refine WC.seq ?_
                refine WC.seq ?_
                refine WC.region ?_
                refine W.any (.field0 fa102_4 rfl) rfl rfl rfl ?_
                refine W.rd (.loadB (v := .int .i64 (x.ex)) na3 rfl f19 rfl) rfl rfl rfl ?_
                refine W.any (.field0 fa102_4 rfl) rfl rfl rfl ?_
                refine W.rd (.loadB (v := .int .i64 (y.ex)) na3 rfl f20 rfl) rfl rfl rfl ?_
                refine W.any (.sub rfl rfl (by omega)) rfl rfl rfl ?_
                refine W.any (.field0 fa74_2 rfl) rfl rfl rfl ?_
                have f21 := (f17.le h4_6)
                refine W.rd (.loadB (v := .int .i64 (p.d)) na3 rfl f21 rfl) rfl rfl rfl ?_
                refine W.any (.lss rfl rfl) rfl rfl rfl ?_
                refine W.any (.assign rfl) rfl rfl rfl ?_
                refine W.nil ?_
                refine E.thenN ?_
                by_cases c3 : (x.ex - y.ex) < p.d
                · refine WC.condY rfl (decide_eq_true c3) ?_
                  refine WC.exit ?_
                  refine E.thenX ?_
                  refine E.thenX ?_
                  refine E.blkX rfl ?_
                  refine E.thenX ?_
                  refine E.blkX rfl ?_
                  refine E.thenX ?_
                  refine E.blkH ?_
                  refine E.blkN ?_
                  refine E.thenN ?_
                  refine WC.seq ?_
                  refine WC.seq ?_
                  refine WC.region ?_
                  refine W.any (.assign rfl) rfl rfl rfl ?_
                  refine W.nil ?_
                  refine E.thenN ?_
                  refine WC.ret ?_
                  refine E.thenR ?_
                  refine E.blkR ?_
                  refine E.thenR ?_
                  refine E.retG1 rfl rfl ?_
                  exact ⟨by unfold mayE; first | (simp [q1_3, q1_8, q1_13, c0, c1, q5_2, c2, c3]; done) | (simp [q1_3, q1_8, q1_13, c0, c1, q5_2, c2, c3]; omega), L18⟩
                · refine WC.condN rfl (decide_eq_false c3) ?_
                  refine WC.skip ?_
                  refine E.thenN ?_
                  refine WC.seq ?_
                  refine WC.region ?_
                  refine W.any (.field0 fa102_4 rfl) rfl rfl rfl ?_
                  refine W.rd (.loadB (v := .int .i64 (y.ex)) na3 rfl f20 rfl) rfl rfl rfl ?_
                  refine W.any (.move rfl) rfl rfl rfl ?_
                  refine W.any (.sub rfl rfl (by omega)) rfl rfl rfl ?_
                  refine W.any (.field0 fa100_2 rfl) rfl rfl rfl ?_
                  have f22 := (f11.le (h1_16.trans (h3_3.trans h4_6)))
                  refine W.rd (.loadB (v := .int .i64 (b.nap)) na3 rfl f22 rfl) rfl rfl rfl ?_
                  refine W.any (.leq rfl rfl) rfl rfl rfl ?_
                  refine W.any (.assign rfl) rfl rfl rfl ?_
                  refine W.nil ?_
                  refine E.thenN ?_
                  by_cases c4 : (y.ex - h) ≤ b.nap
                  · refine WC.condY rfl (decide_eq_true c4) ?_
                    refine WC.exit ?_
                    refine E.thenX ?_
                    refine E.blkX rfl ?_
                    refine E.thenX ?_
                    refine E.blkX rfl ?_
                    refine E.thenX ?_
                    refine E.blkX rfl ?_
                    refine E.blkH ?_
                    refine E.thenN ?_
                    refine WC.seq ?_
                    refine WC.seq ?_
                    refine WC.region ?_
                    refine W.any (.assign rfl) rfl rfl rfl ?_
                    refine W.nil ?_
                    refine E.thenN ?_
                    refine WC.ret ?_
                    refine E.thenR ?_
                    refine E.blkR ?_
                    refine E.thenR ?_
                    refine E.retG1 rfl rfl ?_
                    exact ⟨by unfold mayE; first | (simp [q1_3, q1_8, q1_13, c0, c1, q5_2, c2, c3, c4]; done) | (simp [q1_3, q1_8, q1_13, c0, c1, q5_2, c2, c3, c4]; omega), L18⟩
                  · refine WC.condN rfl (decide_eq_false c4) ?_
                    refine WC.skip ?_
                    refine E.thenN ?_
                    refine WC.exit ?_
                    refine E.blkX rfl ?_
                    refine E.thenX ?_
                    refine E.blkX rfl ?_
                    refine E.thenX ?_
                    refine E.blkX rfl ?_
                    refine E.blkX rfl ?_
                    refine E.thenX ?_
                    refine E.blkH ?_
                    refine E.thenN ?_
                    refine WC.seq ?_
                    refine WC.region ?_
                    refine W.any (.assign rfl) rfl rfl rfl ?_
                    refine W.nil ?_
                    refine E.thenN ?_
                    refine WC.ret ?_
                    refine E.retG1 rfl rfl ?_
                    exact ⟨by unfold mayE; first | (simp [q1_3, q1_8, q1_13, c0, c1, q5_2, c2, c3, c4]; done) | (simp [q1_3, q1_8, q1_13, c0, c1, q5_2, c2, c3, c4]; omega), L18⟩
            · refine W.any (.dec (.move rfl) (congrArg not ((Bool.eq_false_iff.2 q5_2)))) rfl rfl rfl ?_
              refine W.skip rfl rfl rfl (rfl) rfl rfl ?_
              refine W.skip rfl rfl rfl (rfl) rfl rfl ?_
              refine W.skip rfl rfl rfl (rfl) rfl rfl ?_
              refine W.skip rfl rfl rfl (rfl) rfl rfl ?_
              refine W.skip rfl rfl rfl (rfl) rfl rfl ?_
              refine W.skip rfl rfl rfl (rfl) rfl rfl ?_
              refine W.skip rfl rfl rfl (rfl) rfl rfl ?_
              refine W.any (.pickT rfl rfl rfl) rfl rfl rfl ?_
              refine W.any (.assign rfl) rfl rfl rfl ?_
              refine W.nil ?_
              refine E.thenN ?_
              refine WC.condT rfl ?_
              refine WC.exit ?_
              refine E.thenX ?_
              refine E.thenX ?_
              refine E.blkX rfl ?_
              refine E.thenX ?_
              refine E.blkH ?_
              refine E.thenN ?_
              refine WC.seq ?_
              refine WC.seq ?_
              refine WC.region ?_
              refine W.any (.assign rfl) rfl rfl rfl ?_
              refine W.nil ?_
              refine E.thenN ?_
              refine WC.ret ?_
              refine E.thenR ?_
              refine E.blkR ?_
              refine E.blkR ?_
              refine E.thenR ?_
              refine E.blkR ?_
              refine E.thenR ?_
              refine E.retG1 rfl rfl ?_
              exact ⟨by unfold mayE; first | (simp [q1_3, q1_8, q1_13, c0, c1, q5_2]; done) | (simp [q1_3, q1_8, q1_13, c0, c1, q5_2]; omega), L18⟩
          · refine WC.condY rfl (congrArg not ((Bool.eq_false_iff.2 c1))) ?_
            refine WC.exit ?_
            refine E.thenX ?_
            refine E.thenX ?_
            refine E.blkH ?_
            refine E.thenN ?_
            refine WC.seq ?_
            refine WC.seq ?_
            refine WC.region ?_
            refine W.any (.assign rfl) rfl rfl rfl ?_
            refine W.nil ?_
            refine E.thenN ?_
            refine WC.ret ?_
            refine E.thenR ?_
            refine E.blkR ?_
            refine E.thenR ?_
            refine E.blkR ?_
            refine E.blkR ?_
            refine E.thenR ?_
            refine E.blkR ?_
            refine E.thenR ?_
            refine E.retG1 rfl rfl ?_
            exact ⟨by unfold mayE; first | (simp [q1_3, q1_8, q1_13, c0, c1]; done) | (simp [q1_3, q1_8, q1_13, c0, c1]; omega), L18⟩
        · refine WC.condY rfl (congrArg not ((Bool.eq_false_iff.2 c0))) ?_
          refine WC.seq ?_
          refine WC.region ?_
          refine W.any (.assign rfl) rfl rfl rfl ?_
          refine W.nil ?_
          refine E.thenN ?_
          refine WC.ret ?_
          refine E.thenR ?_
          refine E.retG1 rfl rfl ?_
          exact ⟨by unfold mayE; first | (simp [q1_3, q1_8, q1_13, c0]; done) | (simp [q1_3, q1_8, q1_13, c0]; omega), L12⟩
      · refine W.any (.dec (.move rfl) (congrArg not ((Bool.eq_false_iff.2 q1_13)))) rfl rfl rfl ?_
        refine W.skip rfl rfl rfl (rfl) rfl rfl ?_
        refine W.skip rfl rfl rfl (rfl) rfl rfl ?_
        refine W.skip rfl rfl rfl (rfl) rfl rfl ?_
        refine W.skip rfl rfl rfl (rfl) rfl rfl ?_
        refine W.any (.pickT rfl rfl rfl) rfl rfl rfl ?_
        refine W.nil ?_
        refine E.thenN ?_
        refine WC.condT rfl ?_
        refine WC.seq ?_
        refine WC.region ?_
        refine W.any (.assign rfl) rfl rfl rfl ?_
        refine W.nil ?_
        refine E.thenN ?_
        refine WC.ret ?_
        refine E.thenR ?_
        refine E.retG1 rfl rfl ?_
        exact ⟨by unfold mayE; first | (simp [q1_3, q1_8, q1_13]; done) | (simp [q1_3, q1_8, q1_13]; omega), L10⟩
    · refine W.any (.dec (.move rfl) (congrArg not ((Bool.eq_false_iff.2 q1_8)))) rfl rfl rfl ?_
      refine W.skip rfl rfl rfl (rfl) rfl rfl ?_
      refine W.skip rfl rfl rfl (rfl) rfl rfl ?_
      refine W.skip rfl rfl rfl (rfl) rfl rfl ?_
      refine W.any (.pickT rfl rfl rfl) rfl rfl rfl ?_
      refine W.any (.move rfl) rfl rfl rfl ?_
      refine W.skip rfl rfl rfl (rfl) rfl rfl ?_
      refine W.skip rfl rfl rfl (rfl) rfl rfl ?_
      refine W.skip rfl rfl rfl (rfl) rfl rfl ?_
      refine W.skip rfl rfl rfl (rfl) rfl rfl ?_
      refine W.any (.pickT rfl rfl rfl) rfl rfl rfl ?_
      refine W.nil ?_
      refine E.thenN ?_
      refine WC.condT rfl ?_
      refine WC.seq ?_
      refine WC.region ?_
      refine W.any (.assign rfl) rfl rfl rfl ?_
      refine W.nil ?_
      refine E.thenN ?_
      refine WC.ret ?_
      refine E.thenR ?_
      refine E.retG1 rfl rfl ?_
      exact ⟨by unfold mayE; first | (simp [q1_3, q1_8]; done) | (simp [q1_3, q1_8]; omega), L8⟩
  · refine W.any (.dec (.move rfl) (congrArg not ((Bool.eq_false_iff.2 q1_3)))) rfl rfl rfl ?_
    refine W.skip rfl rfl rfl (rfl) rfl rfl ?_
    refine W.skip rfl rfl rfl (rfl) rfl rfl ?_
    refine W.skip rfl rfl rfl (rfl) rfl rfl ?_
    refine W.any (.pickT rfl rfl rfl) rfl rfl rfl ?_
    refine W.any (.move rfl) rfl rfl rfl ?_
    refine W.skip rfl rfl rfl (rfl) rfl rfl ?_
    refine W.skip rfl rfl rfl (rfl) rfl rfl ?_
    refine W.skip rfl rfl rfl (rfl) rfl rfl ?_
    refine W.any (.pickT rfl rfl rfl) rfl rfl rfl ?_
    refine W.any (.move rfl) rfl rfl rfl ?_
    refine W.skip rfl rfl rfl (rfl) rfl rfl ?_
    refine W.skip rfl rfl rfl (rfl) rfl rfl ?_
    refine W.skip rfl rfl rfl (rfl) rfl rfl ?_
    refine W.skip rfl rfl rfl (rfl) rfl rfl ?_
    refine W.any (.pickT rfl rfl rfl) rfl rfl rfl ?_
    refine W.nil ?_
    refine E.thenN ?_
    refine WC.condT rfl ?_
    refine WC.seq ?_
    refine WC.region ?_
    refine W.any (.assign rfl) rfl rfl rfl ?_
    refine W.nil ?_
    refine E.thenN ?_
    refine WC.ret ?_
    refine E.thenR ?_
    refine E.retG1 rfl rfl ?_
    exact ⟨by unfold mayE; first | (simp [q1_3]; done) | (simp [q1_3]; omega), L6⟩

theorem hnext_ok (h : Hop) (x : Cnd) (p : Pol) (ht : Int) (b : Bnd) (hx : x.pt < 18446744073709551616) (hy : (toldC h).pt < 18446744073709551616) (hp : PolI p) (w : World) : Calls Try.prog 53 #[.agg (hopV h).toArray, .agg (condV x).toArray, .agg (polV p).toArray, .int .i64 (ht), .agg (bndV b).toArray] w fun r w' => r = .returned (.tuple #[.agg (condV (nextE h x p ht b).1).toArray, .int .i64 (nextE h x p ht b).2]) ∧ Le w w' := by
  refine enter Try.func53 rfl rfl ?_
  have L0 := Le.refl w
  refine WC.seq ?_
  refine WC.region ?_
  refine W.ef rfl rfl rfl ?_
  refine Ef.boxA rfl ?_
  intro g0_0 w0_0 hg0_0 b0_0 h0_0
  have L1 := L0.trans h0_0
  have b0_0 : Blk w0_0 g0_0 95 (hopV h).toArray := b0_0
  refine W.ef rfl rfl rfl ?_
  refine Ef.boxA rfl ?_
  intro g0_1 w0_1 hg0_1 b0_1 h0_1
  have L2 := L1.trans h0_1
  have b0_1 : Blk w0_1 g0_1 102 (condV x).toArray := b0_1
  refine W.ef rfl rfl rfl ?_
  refine Ef.boxA rfl ?_
  intro g0_2 w0_2 hg0_2 b0_2 h0_2
  have L3 := L2.trans h0_2
  have b0_2 : Blk w0_2 g0_2 74 (polV p).toArray := b0_2
  refine W.ef rfl rfl rfl ?_
  refine Ef.boxA rfl ?_
  intro g0_3 w0_3 hg0_3 b0_3 h0_3
  have L4 := L3.trans h0_3
  have b0_3 : Blk w0_3 g0_3 100 (bndV b).toArray := b0_3
  refine W.ef rfl rfl rfl ?_
  refine Ef.allocA z102 ?_
  intro g0_4 w0_4 hg0_4 b0_4 h0_4
  have L5 := L4.trans h0_4
  have b0_4 : Blk w0_4 g0_4 102 (condV noCnd).toArray := b0_4
  refine W.any (.assign rfl) rfl rfl rfl ?_
  refine W.nil ?_
  refine E.thenN ?_
  refine WC.seq ?_
  refine WC.region ?_
  have f6 := (b0_0.le (h0_1.trans (h0_2.trans (h0_3.trans h0_4))))
  refine W.rd (.loadAll ag95 (by rfl) rfl f6) rfl rfl rfl ?_
  refine W.ef rfl rfl rfl ?_
  refine Ef.call go96 rfl rfl (told_ok h w0_4) ?_
  rintro _ w1_1 ⟨rfl, h1_1⟩
  refine ⟨_, rfl, ?_⟩
  have L7 := L5.trans h1_1
  refine W.ef rfl rfl rfl ?_
  refine Ef.allocA z102 ?_
  intro g1_2 w1_2 hg1_2 b1_2 h1_2
  have L8 := L7.trans h1_2
  have b1_2 : Blk w1_2 g1_2 102 (condV noCnd).toArray := b1_2
  refine W.ef0 rfl rfl ?_
  refine Ef.storeAll sz102 (by rfl) rfl rfl b1_2 (by rfl) (condV_row.one (toldC h)) ?_
  intro w1_3 b1_3 h1_3
  have b1_3 : Blk w1_3 g1_2 102 (condV (toldC h)).toArray := b1_3
  have L9 : Le w w1_3 := L8.then_ h1_3 (fun q hq => by cases hq; exact Nat.le_trans L7.size hg1_2)
  refine W.nil ?_
  refine E.thenN ?_
  refine WC.seq ?_
  refine WC.region ?_
  have f10 := ((b0_1.le (h0_2.trans (h0_3.trans (h0_4.trans (h1_1.trans h1_2))))).ch h1_3 (fun h => (show g1_2 ≠ g0_1 from by have := b0_1.lt; have := h0_2.size; have := h0_3.size; have := h0_4.size; have := h1_1.size; omega) (Option.some.inj h)))
  refine W.rd (.loadAll ag102 (by rfl) rfl f10) rfl rfl rfl ?_
  refine W.rd (.loadAll ag102 (by rfl) rfl b1_3) rfl rfl rfl ?_
  have f11 := ((b0_2.le (h0_3.trans (h0_4.trans (h1_1.trans h1_2)))).ch h1_3 (fun h => (show g1_2 ≠ g0_2 from by have := b0_2.lt; have := h0_3.size; have := h0_4.size; have := h1_1.size; omega) (Option.some.inj h)))
  refine W.rd (.loadAll ag74 (by rfl) rfl f11) rfl rfl rfl ?_
  refine W.any (.move rfl) rfl rfl rfl ?_
  have f12 := ((b0_3.le (h0_4.trans (h1_1.trans h1_2))).ch h1_3 (fun h => (show g1_2 ≠ g0_3 from by have := b0_3.lt; have := h0_4.size; have := h1_1.size; omega) (Option.some.inj h)))
  refine W.rd (.loadAll ag100 (by rfl) rfl f12) rfl rfl rfl ?_
  refine W.ef rfl rfl rfl ?_
  refine Ef.call go97 rfl rfl (may_ok2 x (toldC h) p ht b hx hy hp w1_3) ?_
  rintro _ w2_5 ⟨rfl, h2_5⟩
  refine ⟨_, rfl, ?_⟩
  have L13 := L9.trans h2_5
  refine W.any (.assign rfl) rfl rfl rfl ?_
  refine W.nil ?_
  refine E.thenN ?_
  refine WC.seq ?_
  refine WC.block ?_
  refine WC.seq ?_
  refine WC.region ?_
  refine W.any (.field0 fa95_0 rfl) rfl rfl rfl ?_
  have f14 := (((f6.le (h1_1.trans h1_2)).ch h1_3 (fun h => (show g1_2 ≠ g0_0 from by have := f6.lt; have := h1_1.size; omega) (Option.some.inj h))).le h2_5)
  refine W.rd (.loadB (v := .int .i64 (h.1)) na3 rfl f14 rfl) rfl rfl rfl ?_
  refine W.ef rfl rfl rfl ?_
  refine Ef.call go98 rfl rfl (hin_ok h.1 0 11 w2_5) ?_
  rintro _ w3_2 ⟨rfl, h3_2⟩
  refine ⟨_, rfl, ?_⟩
  have L15 := L13.trans h3_2
  refine W.any (.not rfl) rfl rfl rfl ?_
  by_cases q3_4 : inB h.1 0 11 = true
  · refine W.any (.dec (.move rfl) (congrArg not (q3_4))) rfl rfl rfl ?_
    refine W.rdg (Any.rd (.field0 fa95_1 rfl) _) rfl rfl rfl (rfl) rfl rfl ?_
    have f16 := (f14.le h3_2)
    refine W.rdg (.loadB (v := .int .i64 (h.2.1)) na3 rfl f16 rfl) rfl rfl rfl (rfl) rfl rfl ?_
    refine W.efg rfl rfl rfl (rfl) rfl rfl ?_
    refine Ef.call go98 rfl rfl (hin_ok h.2.1 0 39 w3_2) ?_
    rintro _ w3_7 ⟨rfl, h3_7⟩
    refine ⟨_, rfl, ?_⟩
    have L17 := L15.trans h3_7
    refine W.rdg (Any.rd (.not rfl) _) rfl rfl rfl (rfl) rfl rfl ?_
    refine W.any (.pickF rfl rfl rfl) rfl rfl rfl ?_
    by_cases q3_10 : inB h.2.1 0 39 = true
    · refine W.any (.dec (.move rfl) (congrArg not (q3_10))) rfl rfl rfl ?_
      refine W.rdg (Any.rd (.move rfl) _) rfl rfl rfl (rfl) rfl rfl ?_
      refine W.rdg (Any.rd (.eql rfl rfl) _) rfl rfl rfl (rfl) rfl rfl ?_
      refine W.any (.pickF rfl rfl rfl) rfl rfl rfl ?_
      refine W.any (.assign rfl) rfl rfl rfl ?_
      refine W.nil ?_
      refine E.thenN ?_
      by_cases c0 : (mayE x (toldC h) p ht b) = 1
      · refine WC.condY rfl (decide_eq_true c0) ?_
        refine WC.seq ?_
        refine WC.region ?_
        refine W.any (.buildP (condV (⟨0, 0, 0, 0, 0⟩)) pl102 z102 rfl rfl) rfl rfl rfl ?_
        have f18 := (((b0_4.le (h1_1.trans h1_2)).ch h1_3 (fun h => (show g1_2 ≠ g0_4 from by have := b0_4.lt; have := h1_1.size; omega) (Option.some.inj h))).le (h2_5.trans (h3_2.trans h3_7)))
        refine W.ef0 rfl rfl ?_
        refine Ef.storeAll sz102 (by rfl) rfl rfl f18 (by rfl) (condV_row.one (⟨0, 0, 0, 0, 0⟩)) ?_
        intro w4_1 b4_1 h4_1
        have b4_1 : Blk w4_1 g0_4 102 (condV (⟨0, 0, 0, 0, 0⟩)).toArray := b4_1
        have L19 : Le w w4_1 := L17.then_ h4_1 (fun q hq => by cases hq; exact Nat.le_trans L4.size hg0_4)
        refine W.any (.assign rfl) rfl rfl rfl ?_
        refine W.nil ?_
        refine E.thenN ?_
        refine WC.ret ?_
        refine E.blkR ?_
        refine E.thenR ?_
        refine E.retG2 rfl (resA rfl b4_1 ag102 (by rfl)) rfl ?_
        have hnx : nextE h x p ht b = (noCnd, 1) := by unfold nextE; rw [if_neg (fun hh => by first | exact absurd hh.1 (by assumption) | exact absurd hh.2.1 (by assumption) | exact hh.2.2 (by assumption))]
        exact ⟨by rw [hnx]; first | done | rfl, L19⟩
      · refine WC.condN rfl (decide_eq_false c0) ?_
        have hpy := passedB_T (mayE_in (by assumption : ¬ mayE x (toldC h) p ht b = 1)).2.2.1
        refine WC.seq ?_
        refine WC.draw [0, 1, 2, 3, 4, 5] mixed (by kernel_rfl) ?_
        intro w5 d5
        have L20 := L17.trans d5
        refine G.any rfl rfl (.field0 fa102_3 rfl) rfl rfl rfl ?_
        have f21 := (f10.le (h2_5.trans (h3_2.trans (h3_7.trans d5))))
        refine G.rd rfl rfl (.loadB (v := .int .u64 (((x.pt : Nat) : Int))) na31 rfl f21 rfl) rfl rfl rfl ?_
        have f22 := (f16.le (h3_7.trans d5))
        refine G.rd rfl rfl (.loadAll ag95 (by rfl) rfl f22) rfl rfl rfl ?_
        refine G.ef rfl rfl rfl rfl rfl ?_
        refine Ef.call go99 rfl rfl (own_ok h hy hpy.2.2.2 w5) ?_
        rintro _ w5_3 ⟨rfl, h5_3⟩
        refine ⟨_, rfl, ?_⟩
        refine ⟨fun _ => h5_3, ?_⟩
        have L23 := L20.trans h5_3
        refine G.any rfl rfl (.neq rfl rfl) rfl rfl rfl ?_
        refine G.any rfl rfl (.assign rfl) rfl rfl rfl ?_
        refine G.nil ?_
        refine E.thenN ?_
        by_cases c1 : ((x.pt : Nat) : Int) ≠ ((ownP h : Nat) : Int)
        · refine WC.condY rfl (decide_eq_true c1) ?_
          refine WC.seq ?_
          refine WC.region ?_
          refine W.any (.buildP (condV (⟨0, 0, 0, 0, 0⟩)) pl102 z102 rfl rfl) rfl rfl rfl ?_
          have f24 := (((b0_4.le (h1_1.trans h1_2)).ch h1_3 (fun h => (show g1_2 ≠ g0_4 from by have := b0_4.lt; have := h1_1.size; omega) (Option.some.inj h))).le (h2_5.trans (h3_2.trans (h3_7.trans (d5.trans h5_3)))))
          refine W.ef0 rfl rfl ?_
          refine Ef.storeAll sz102 (by rfl) rfl rfl f24 (by rfl) (condV_row.one (⟨0, 0, 0, 0, 0⟩)) ?_
          intro w6_1 b6_1 h6_1
          have b6_1 : Blk w6_1 g0_4 102 (condV (⟨0, 0, 0, 0, 0⟩)).toArray := b6_1
          have L25 : Le w w6_1 := L23.then_ h6_1 (fun q hq => by cases hq; exact Nat.le_trans L4.size hg0_4)
          refine W.any (.assign rfl) rfl rfl rfl ?_
          refine W.nil ?_
          refine E.thenN ?_
          refine WC.ret ?_
          refine E.blkR ?_
          refine E.thenR ?_
          refine E.retG2 rfl (resA rfl b6_1 ag102 (by rfl)) rfl ?_
          have hnx : nextE h x p ht b = (noCnd, 23) := by unfold nextE; rw [if_pos ⟨by assumption, by assumption, by assumption⟩, if_neg (by omega)]
          exact ⟨by rw [hnx]; first | done | rfl, L25⟩
        · refine WC.condN rfl (decide_eq_false c1) ?_
          refine WC.seq ?_
          refine WC.region ?_
          refine W.any (.move rfl) rfl rfl rfl ?_
          refine W.any (.neq rfl rfl) rfl rfl rfl ?_
          refine W.any (.assign rfl) rfl rfl rfl ?_
          refine W.nil ?_
          refine E.thenN ?_
          by_cases c2 : (mayE x (toldC h) p ht b) ≠ 0
          · refine WC.condY rfl (decide_eq_true c2) ?_
            refine WC.seq ?_
            refine WC.region ?_
            refine W.any (.buildP (condV (⟨0, 0, 0, 0, 0⟩)) pl102 z102 rfl rfl) rfl rfl rfl ?_
            refine W.any (.move rfl) rfl rfl rfl ?_
            have f26 := (((b0_4.le (h1_1.trans h1_2)).ch h1_3 (fun h => (show g1_2 ≠ g0_4 from by have := b0_4.lt; have := h1_1.size; omega) (Option.some.inj h))).le (h2_5.trans (h3_2.trans (h3_7.trans (d5.trans h5_3)))))
            refine W.ef0 rfl rfl ?_
            refine Ef.storeAll sz102 (by rfl) rfl rfl f26 (by rfl) (condV_row.one (⟨0, 0, 0, 0, 0⟩)) ?_
            intro w8_2 b8_2 h8_2
            have b8_2 : Blk w8_2 g0_4 102 (condV (⟨0, 0, 0, 0, 0⟩)).toArray := b8_2
            have L27 : Le w w8_2 := L23.then_ h8_2 (fun q hq => by cases hq; exact Nat.le_trans L4.size hg0_4)
            refine W.any (.assign rfl) rfl rfl rfl ?_
            refine W.nil ?_
            refine E.thenN ?_
            refine WC.ret ?_
            refine E.blkR ?_
            refine E.thenR ?_
            refine E.retG2 rfl (resA rfl b8_2 ag102 (by rfl)) rfl ?_
            have hnx : nextE h x p ht b = (noCnd, mayE x (toldC h) p ht b) := by unfold nextE; rw [if_pos ⟨by assumption, by assumption, by assumption⟩, if_pos (by omega), if_neg (by assumption)]
            exact ⟨by rw [hnx]; first | done | rfl, L27⟩
          · refine WC.condN rfl (decide_eq_false c2) ?_
            refine WC.skip ?_
            refine E.blkN ?_
            refine E.thenN ?_
            refine WC.seq ?_
            refine WC.region ?_
            have f28 := (b1_3.le (h2_5.trans (h3_2.trans (h3_7.trans (d5.trans h5_3)))))
            refine W.rd (.loadAll ag102 (by rfl) rfl f28) rfl rfl rfl ?_
            have f29 := (((b0_4.le (h1_1.trans h1_2)).ch h1_3 (fun h => (show g1_2 ≠ g0_4 from by have := b0_4.lt; have := h1_1.size; omega) (Option.some.inj h))).le (h2_5.trans (h3_2.trans (h3_7.trans (d5.trans h5_3)))))
            refine W.ef0 rfl rfl ?_
            refine Ef.storeAll sz102 (by rfl) rfl rfl f29 (by rfl) (condV_row.one (toldC h)) ?_
            intro w9_1 b9_1 h9_1
            have b9_1 : Blk w9_1 g0_4 102 (condV (toldC h)).toArray := b9_1
            have L30 : Le w w9_1 := L23.then_ h9_1 (fun q hq => by cases hq; exact Nat.le_trans L4.size hg0_4)
            refine W.any (.assign rfl) rfl rfl rfl ?_
            refine W.nil ?_
            refine E.thenN ?_
            refine WC.ret ?_
            refine E.retG2 rfl (resA rfl b9_1 ag102 (by rfl)) rfl ?_
            have hnx : nextE h x p ht b = (toldC h, 0) := by unfold nextE; rw [if_pos ⟨by assumption, by assumption, by assumption⟩, if_pos (by omega), if_pos (by omega)]
            exact ⟨by rw [hnx]; first | done | rfl, L30⟩
    · refine W.any (.dec (.move rfl) (congrArg not ((Bool.eq_false_iff.2 q3_10)))) rfl rfl rfl ?_
      refine W.skip rfl rfl rfl (rfl) rfl rfl ?_
      refine W.skip rfl rfl rfl (rfl) rfl rfl ?_
      refine W.any (.pickT rfl rfl rfl) rfl rfl rfl ?_
      refine W.any (.assign rfl) rfl rfl rfl ?_
      refine W.nil ?_
      refine E.thenN ?_
      refine WC.condT rfl ?_
      refine WC.seq ?_
      refine WC.region ?_
      refine W.any (.buildP (condV (⟨0, 0, 0, 0, 0⟩)) pl102 z102 rfl rfl) rfl rfl rfl ?_
      have f31 := (((b0_4.le (h1_1.trans h1_2)).ch h1_3 (fun h => (show g1_2 ≠ g0_4 from by have := b0_4.lt; have := h1_1.size; omega) (Option.some.inj h))).le (h2_5.trans (h3_2.trans h3_7)))
      refine W.ef0 rfl rfl ?_
      refine Ef.storeAll sz102 (by rfl) rfl rfl f31 (by rfl) (condV_row.one (⟨0, 0, 0, 0, 0⟩)) ?_
      intro w4_1_1 b4_1_1 h4_1_1
      have b4_1_1 : Blk w4_1_1 g0_4 102 (condV (⟨0, 0, 0, 0, 0⟩)).toArray := b4_1_1
      have L32 : Le w w4_1_1 := L17.then_ h4_1_1 (fun q hq => by cases hq; exact Nat.le_trans L4.size hg0_4)
      refine W.any (.assign rfl) rfl rfl rfl ?_
      refine W.nil ?_
      refine E.thenN ?_
      refine WC.ret ?_
      refine E.blkR ?_
      refine E.thenR ?_
      refine E.retG2 rfl (resA rfl b4_1_1 ag102 (by rfl)) rfl ?_
      have hnx : nextE h x p ht b = (noCnd, 1) := by unfold nextE; rw [if_neg (fun hh => by first | exact absurd hh.1 (by assumption) | exact absurd hh.2.1 (by assumption) | exact hh.2.2 (by assumption))]
      exact ⟨by rw [hnx]; first | done | rfl, L32⟩
  · refine W.any (.dec (.move rfl) (congrArg not ((Bool.eq_false_iff.2 q3_4)))) rfl rfl rfl ?_
    refine W.skip rfl rfl rfl (rfl) rfl rfl ?_
    refine W.skip rfl rfl rfl (rfl) rfl rfl ?_
    refine W.skip rfl rfl rfl (rfl) rfl rfl ?_
    refine W.skip rfl rfl rfl (rfl) rfl rfl ?_
    refine W.any (.pickT rfl rfl rfl) rfl rfl rfl ?_
    refine W.any (.move rfl) rfl rfl rfl ?_
    refine W.skip rfl rfl rfl (rfl) rfl rfl ?_
    refine W.skip rfl rfl rfl (rfl) rfl rfl ?_
    refine W.any (.pickT rfl rfl rfl) rfl rfl rfl ?_
    refine W.any (.assign rfl) rfl rfl rfl ?_
    refine W.nil ?_
    refine E.thenN ?_
    refine WC.condT rfl ?_
    refine WC.seq ?_
    refine WC.region ?_
    refine W.any (.buildP (condV (⟨0, 0, 0, 0, 0⟩)) pl102 z102 rfl rfl) rfl rfl rfl ?_
    have f33 := (((b0_4.le (h1_1.trans h1_2)).ch h1_3 (fun h => (show g1_2 ≠ g0_4 from by have := b0_4.lt; have := h1_1.size; omega) (Option.some.inj h))).le (h2_5.trans h3_2))
    refine W.ef0 rfl rfl ?_
    refine Ef.storeAll sz102 (by rfl) rfl rfl f33 (by rfl) (condV_row.one (⟨0, 0, 0, 0, 0⟩)) ?_
    intro w4_1_2 b4_1_2 h4_1_2
    have b4_1_2 : Blk w4_1_2 g0_4 102 (condV (⟨0, 0, 0, 0, 0⟩)).toArray := b4_1_2
    have L34 : Le w w4_1_2 := L15.then_ h4_1_2 (fun q hq => by cases hq; exact Nat.le_trans L4.size hg0_4)
    refine W.any (.assign rfl) rfl rfl rfl ?_
    refine W.nil ?_
    refine E.thenN ?_
    refine WC.ret ?_
    refine E.blkR ?_
    refine E.thenR ?_
    refine E.retG2 rfl (resA rfl b4_1_2 ag102 (by rfl)) rfl ?_
    have hnx : nextE h x p ht b = (noCnd, 1) := by unfold nextE; rw [if_neg (fun hh => by first | exact absurd hh.1 (by assumption) | exact absurd hh.2.1 (by assumption) | exact hh.2.2 (by assumption))]
    exact ⟨by rw [hnx]; first | done | rfl, L34⟩

theorem hlast_ok (h : Hop) (x : Cnd) (ht : Int) (b : Bnd) (hx : x.pt < 18446744073709551616) (hy : (toldC h).pt < 18446744073709551616) (w : World) : Calls Try.prog 54 #[.agg (hopV h).toArray, .agg (condV x).toArray, .int .i64 (ht), .agg (bndV b).toArray] w fun r w' => r = .returned (.int .i64 (lastE h x ht b)) ∧ Le w w' := by
  refine enter Try.func54 rfl rfl ?_
  have L0 := Le.refl w
  refine WC.seq ?_
  refine WC.region ?_
  refine W.ef rfl rfl rfl ?_
  refine Ef.boxA rfl ?_
  intro g0_0 w0_0 hg0_0 b0_0 h0_0
  have L1 := L0.trans h0_0
  have b0_0 : Blk w0_0 g0_0 95 (hopV h).toArray := b0_0
  refine W.ef rfl rfl rfl ?_
  refine Ef.boxA rfl ?_
  intro g0_1 w0_1 hg0_1 b0_1 h0_1
  have L2 := L1.trans h0_1
  have b0_1 : Blk w0_1 g0_1 102 (condV x).toArray := b0_1
  refine W.ef rfl rfl rfl ?_
  refine Ef.boxA rfl ?_
  intro g0_2 w0_2 hg0_2 b0_2 h0_2
  have L3 := L2.trans h0_2
  have b0_2 : Blk w0_2 g0_2 100 (bndV b).toArray := b0_2
  refine W.any (.assign rfl) rfl rfl rfl ?_
  refine W.nil ?_
  refine E.thenN ?_
  refine WC.seq ?_
  refine WC.block ?_
  refine WC.seq ?_
  refine WC.region ?_
  refine W.any (.field0 fa95_0 rfl) rfl rfl rfl ?_
  have f4 := (b0_0.le (h0_1.trans h0_2))
  refine W.rd (.loadB (v := .int .i64 (h.1)) na3 rfl f4 rfl) rfl rfl rfl ?_
  refine W.any (.neq rfl rfl) rfl rfl rfl ?_
  by_cases q1_3 : h.1 ≠ (-1)
  · refine W.any (.dec (.move rfl) (decide_eq_true q1_3)) rfl rfl rfl ?_
    refine W.skip rfl rfl rfl (rfl) rfl rfl ?_
    refine W.skip rfl rfl rfl (rfl) rfl rfl ?_
    refine W.skip rfl rfl rfl (rfl) rfl rfl ?_
    refine W.skip rfl rfl rfl (rfl) rfl rfl ?_
    refine W.any (.pickT rfl rfl rfl) rfl rfl rfl ?_
    refine W.any (.move rfl) rfl rfl rfl ?_
    refine W.skip rfl rfl rfl (rfl) rfl rfl ?_
    refine W.skip rfl rfl rfl (rfl) rfl rfl ?_
    refine W.skip rfl rfl rfl (rfl) rfl rfl ?_
    refine W.any (.pickT rfl rfl rfl) rfl rfl rfl ?_
    refine W.any (.move rfl) rfl rfl rfl ?_
    refine W.skip rfl rfl rfl (rfl) rfl rfl ?_
    refine W.skip rfl rfl rfl (rfl) rfl rfl ?_
    refine W.skip rfl rfl rfl (rfl) rfl rfl ?_
    refine W.skip rfl rfl rfl (rfl) rfl rfl ?_
    refine W.any (.pickT rfl rfl rfl) rfl rfl rfl ?_
    refine W.any (.assign rfl) rfl rfl rfl ?_
    refine W.nil ?_
    refine E.thenN ?_
    refine WC.condT rfl ?_
    refine WC.seq ?_
    refine WC.region ?_
    refine W.any (.assign rfl) rfl rfl rfl ?_
    refine W.nil ?_
    refine E.thenN ?_
    refine WC.ret ?_
    refine E.blkR ?_
    refine E.thenR ?_
    refine E.retG1 rfl rfl ?_
    exact ⟨by unfold lastE; first | (simp [q1_3]; done) | (simp [q1_3]; omega) | (have hne : x.pt ≠ ownP h := by omega; simp [q1_3, hne]; done) | (have hne : x.pt = ownP h := by omega; simp [q1_3, hne]; first | done | omega), L3⟩
  · refine W.any (.dec (.move rfl) (decide_eq_false q1_3)) rfl rfl rfl ?_
    refine W.rdg (.loadAll ag95 (by rfl) rfl f4) rfl rfl rfl (rfl) rfl rfl ?_
    refine W.efg rfl rfl rfl (rfl) rfl rfl ?_
    refine Ef.call go96 rfl rfl (told_ok h w0_2) ?_
    rintro _ w1_5 ⟨rfl, h1_5⟩
    refine ⟨_, rfl, ?_⟩
    have L5 := L3.trans h1_5
    refine W.efg rfl rfl rfl (rfl) rfl rfl ?_
    refine Ef.call go100 rfl rfl (passed_ok (toldC h) hy w1_5) ?_
    rintro _ w1_6 ⟨rfl, h1_6⟩
    refine ⟨_, rfl, ?_⟩
    have L6 := L5.trans h1_6
    refine W.rdg (Any.rd (.not rfl) _) rfl rfl rfl (rfl) rfl rfl ?_
    refine W.any (.pickF rfl rfl rfl) rfl rfl rfl ?_
    by_cases q1_9 : passedB (toldC h) = true
    · refine W.any (.dec (.move rfl) (congrArg not (q1_9))) rfl rfl rfl ?_
      have f7 := (b0_1.le (h0_2.trans (h1_5.trans h1_6)))
      refine W.rdg (.loadAll ag102 (by rfl) rfl f7) rfl rfl rfl (rfl) rfl rfl ?_
      refine W.efg rfl rfl rfl (rfl) rfl rfl ?_
      refine Ef.call go100 rfl rfl (passed_ok x hx w1_6) ?_
      rintro _ w1_11 ⟨rfl, h1_11⟩
      refine ⟨_, rfl, ?_⟩
      have L8 := L6.trans h1_11
      refine W.rdg (Any.rd (.not rfl) _) rfl rfl rfl (rfl) rfl rfl ?_
      refine W.any (.pickF rfl rfl rfl) rfl rfl rfl ?_
      by_cases q1_14 : passedB x = true
      · refine W.any (.dec (.move rfl) (congrArg not (q1_14))) rfl rfl rfl ?_
        refine W.rdg (Any.rd (.move rfl) _) rfl rfl rfl (rfl) rfl rfl ?_
        have f9 := (b0_2.le (h1_5.trans (h1_6.trans h1_11)))
        refine W.rdg (.loadAll ag100 (by rfl) rfl f9) rfl rfl rfl (rfl) rfl rfl ?_
        refine W.efg rfl rfl rfl (rfl) rfl rfl ?_
        refine Ef.call go101 rfl rfl (world_ok ht b w1_11) ?_
        rintro _ w1_17 ⟨rfl, h1_17⟩
        refine ⟨_, rfl, ?_⟩
        have L10 := L8.trans h1_17
        refine W.rdg (Any.rd (.not rfl) _) rfl rfl rfl (rfl) rfl rfl ?_
        refine W.any (.pickF rfl rfl rfl) rfl rfl rfl ?_
        refine W.any (.assign rfl) rfl rfl rfl ?_
        refine W.nil ?_
        refine E.thenN ?_
        by_cases c0 : worldB ht b = true
        · refine WC.condN rfl (congrArg not (c0)) ?_
          have hpy := passedB_T (by assumption : passedB (toldC h) = true)
          have hpx := passedB_T (by assumption : passedB x = true)
          have hwd := worldB_T (by assumption : worldB ht b = true)
          refine WC.seq ?_
          refine WC.draw [0, 1, 2, 3, 4, 5] mixed (by kernel_rfl) ?_
          intro w3 d3
          have L11 := L10.trans d3
          refine G.any rfl rfl (.field0 fa102_3 rfl) rfl rfl rfl ?_
          have f12 := (f7.le (h1_11.trans (h1_17.trans d3)))
          refine G.rd rfl rfl (.loadB (v := .int .u64 (((x.pt : Nat) : Int))) na31 rfl f12 rfl) rfl rfl rfl ?_
          have f13 := (f4.le (h1_5.trans (h1_6.trans (h1_11.trans (h1_17.trans d3)))))
          refine G.rd rfl rfl (.loadAll ag95 (by rfl) rfl f13) rfl rfl rfl ?_
          refine G.ef rfl rfl rfl rfl rfl ?_
          refine Ef.call go99 rfl rfl (own_ok h hy hpy.2.2.2 w3) ?_
          rintro _ w3_3 ⟨rfl, h3_3⟩
          refine ⟨_, rfl, ?_⟩
          refine ⟨fun _ => h3_3, ?_⟩
          have L14 := L11.trans h3_3
          refine G.any rfl rfl (.neq rfl rfl) rfl rfl rfl ?_
          refine G.any rfl rfl (.assign rfl) rfl rfl rfl ?_
          refine G.nil ?_
          refine E.thenN ?_
          by_cases c1 : ((x.pt : Nat) : Int) ≠ ((ownP h : Nat) : Int)
          · refine WC.condY rfl (decide_eq_true c1) ?_
            refine WC.seq ?_
            refine WC.region ?_
            refine W.any (.assign rfl) rfl rfl rfl ?_
            refine W.nil ?_
            refine E.thenN ?_
            refine WC.ret ?_
            refine E.blkR ?_
            refine E.thenR ?_
            refine E.retG1 rfl rfl ?_
            exact ⟨by unfold lastE; first | (simp [q1_3, q1_9, q1_14, c0, c1]; done) | (simp [q1_3, q1_9, q1_14, c0, c1]; omega) | (have hne : x.pt ≠ ownP h := by omega; simp [q1_3, q1_9, q1_14, c0, c1, hne]; done) | (have hne : x.pt = ownP h := by omega; simp [q1_3, q1_9, q1_14, c0, c1, hne]; first | done | omega), L14⟩
          · refine WC.condN rfl (decide_eq_false c1) ?_
            refine WC.seq ?_
            refine WC.region ?_
            refine W.any (.field0 fa102_2 rfl) rfl rfl rfl ?_
            have f15 := (f12.le h3_3)
            refine W.rd (.loadB (v := .int .i64 (x.am)) na3 rfl f15 rfl) rfl rfl rfl ?_
            refine W.any (.field0 fa95_2 rfl) rfl rfl rfl ?_
            have f16 := (f13.le h3_3)
            refine W.rd (.loadB (v := .int .i64 (h.2.2.1)) na3 rfl f16 rfl) rfl rfl rfl ?_
            refine W.any (.lss rfl rfl) rfl rfl rfl ?_
            refine W.any (.assign rfl) rfl rfl rfl ?_
            refine W.nil ?_
            refine E.thenN ?_
            by_cases c2 : x.am < h.2.2.1
            · refine WC.condY rfl (decide_eq_true c2) ?_
              refine WC.seq ?_
              refine WC.region ?_
              refine W.any (.assign rfl) rfl rfl rfl ?_
              refine W.nil ?_
              refine E.thenN ?_
              refine WC.ret ?_
              refine E.blkR ?_
              refine E.thenR ?_
              refine E.retG1 rfl rfl ?_
              exact ⟨by unfold lastE; first | (simp [q1_3, q1_9, q1_14, c0, c1, c2]; done) | (simp [q1_3, q1_9, q1_14, c0, c1, c2]; omega) | (have hne : x.pt ≠ ownP h := by omega; simp [q1_3, q1_9, q1_14, c0, c1, c2, hne]; done) | (have hne : x.pt = ownP h := by omega; simp [q1_3, q1_9, q1_14, c0, c1, c2, hne]; first | done | omega), L14⟩
            · refine WC.condN rfl (decide_eq_false c2) ?_
              refine WC.seq ?_
              refine WC.region ?_
              refine W.any (.field0 fa102_4 rfl) rfl rfl rfl ?_
              refine W.rd (.loadB (v := .int .i64 (x.ex)) na3 rfl f15 rfl) rfl rfl rfl ?_
              refine W.any (.field0 fa95_3 rfl) rfl rfl rfl ?_
              refine W.rd (.loadB (v := .int .i64 (h.2.2.2.1)) na3 rfl f16 rfl) rfl rfl rfl ?_
              refine W.any (.lss rfl rfl) rfl rfl rfl ?_
              by_cases q7_5 : x.ex < h.2.2.2.1
              · refine W.any (.dec (.move rfl) (decide_eq_true q7_5)) rfl rfl rfl ?_
                refine W.skip rfl rfl rfl (rfl) rfl rfl ?_
                refine W.skip rfl rfl rfl (rfl) rfl rfl ?_
                refine W.skip rfl rfl rfl (rfl) rfl rfl ?_
                refine W.skip rfl rfl rfl (rfl) rfl rfl ?_
                refine W.skip rfl rfl rfl (rfl) rfl rfl ?_
                refine W.skip rfl rfl rfl (rfl) rfl rfl ?_
                refine W.skip rfl rfl rfl (rfl) rfl rfl ?_
                refine W.any (.pickT rfl rfl rfl) rfl rfl rfl ?_
                refine W.any (.assign rfl) rfl rfl rfl ?_
                refine W.nil ?_
                refine E.thenN ?_
                refine WC.condT rfl ?_
                refine WC.seq ?_
                refine WC.region ?_
                refine W.any (.assign rfl) rfl rfl rfl ?_
                refine W.nil ?_
                refine E.thenN ?_
                refine WC.ret ?_
                refine E.blkR ?_
                refine E.thenR ?_
                refine E.retG1 rfl rfl ?_
                exact ⟨by unfold lastE; first | (simp [q1_3, q1_9, q1_14, c0, c1, c2, q7_5]; done) | (simp [q1_3, q1_9, q1_14, c0, c1, c2, q7_5]; omega) | (have hne : x.pt ≠ ownP h := by omega; simp [q1_3, q1_9, q1_14, c0, c1, c2, q7_5, hne]; done) | (have hne : x.pt = ownP h := by omega; simp [q1_3, q1_9, q1_14, c0, c1, c2, q7_5, hne]; first | done | omega), L14⟩
              · refine W.any (.dec (.move rfl) (decide_eq_false q7_5)) rfl rfl rfl ?_
                refine W.rdg (Any.rd (.field0 fa102_4 rfl) _) rfl rfl rfl (rfl) rfl rfl ?_
                refine W.rdg (.loadB (v := .int .i64 (x.ex)) na3 rfl f15 rfl) rfl rfl rfl (rfl) rfl rfl ?_
                refine W.rdg (Any.rd (.move rfl) _) rfl rfl rfl (rfl) rfl rfl ?_
                refine W.rdg (Any.rd (.sub rfl rfl (by omega)) _) rfl rfl rfl (rfl) rfl rfl ?_
                refine W.rdg (Any.rd (.field0 fa100_2 rfl) _) rfl rfl rfl (rfl) rfl rfl ?_
                have f17 := (f9.le (h1_17.trans (d3.trans h3_3)))
                refine W.rdg (.loadB (v := .int .i64 (b.nap)) na3 rfl f17 rfl) rfl rfl rfl (rfl) rfl rfl ?_
                refine W.rdg (Any.rd (.leq rfl rfl) _) rfl rfl rfl (rfl) rfl rfl ?_
                refine W.any (.pickF rfl rfl rfl) rfl rfl rfl ?_
                refine W.any (.assign rfl) rfl rfl rfl ?_
                refine W.nil ?_
                refine E.thenN ?_
                by_cases c3 : (x.ex - ht) ≤ b.nap
                · refine WC.condY rfl (decide_eq_true c3) ?_
                  refine WC.seq ?_
                  refine WC.region ?_
                  refine W.any (.assign rfl) rfl rfl rfl ?_
                  refine W.nil ?_
                  refine E.thenN ?_
                  refine WC.ret ?_
                  refine E.blkR ?_
                  refine E.thenR ?_
                  refine E.retG1 rfl rfl ?_
                  exact ⟨by unfold lastE; first | (simp [q1_3, q1_9, q1_14, c0, c1, c2, q7_5, c3]; done) | (simp [q1_3, q1_9, q1_14, c0, c1, c2, q7_5, c3]; omega) | (have hne : x.pt ≠ ownP h := by omega; simp [q1_3, q1_9, q1_14, c0, c1, c2, q7_5, c3, hne]; done) | (have hne : x.pt = ownP h := by omega; simp [q1_3, q1_9, q1_14, c0, c1, c2, q7_5, c3, hne]; first | done | omega), L14⟩
                · refine WC.condN rfl (decide_eq_false c3) ?_
                  refine WC.skip ?_
                  refine E.blkN ?_
                  refine E.thenN ?_
                  refine WC.seq ?_
                  refine WC.region ?_
                  refine W.any (.assign rfl) rfl rfl rfl ?_
                  refine W.nil ?_
                  refine E.thenN ?_
                  refine WC.ret ?_
                  refine E.retG1 rfl rfl ?_
                  exact ⟨by unfold lastE; first | (simp [q1_3, q1_9, q1_14, c0, c1, c2, q7_5, c3]; done) | (simp [q1_3, q1_9, q1_14, c0, c1, c2, q7_5, c3]; omega) | (have hne : x.pt ≠ ownP h := by omega; simp [q1_3, q1_9, q1_14, c0, c1, c2, q7_5, c3, hne]; done) | (have hne : x.pt = ownP h := by omega; simp [q1_3, q1_9, q1_14, c0, c1, c2, q7_5, c3, hne]; first | done | omega), L14⟩
        · refine WC.condY rfl (congrArg not ((Bool.eq_false_iff.2 c0))) ?_
          refine WC.seq ?_
          refine WC.region ?_
          refine W.any (.assign rfl) rfl rfl rfl ?_
          refine W.nil ?_
          refine E.thenN ?_
          refine WC.ret ?_
          refine E.blkR ?_
          refine E.thenR ?_
          refine E.retG1 rfl rfl ?_
          exact ⟨by unfold lastE; first | (simp [q1_3, q1_9, q1_14, c0]; done) | (simp [q1_3, q1_9, q1_14, c0]; omega) | (have hne : x.pt ≠ ownP h := by omega; simp [q1_3, q1_9, q1_14, c0, hne]; done) | (have hne : x.pt = ownP h := by omega; simp [q1_3, q1_9, q1_14, c0, hne]; first | done | omega), L10⟩
      · refine W.any (.dec (.move rfl) (congrArg not ((Bool.eq_false_iff.2 q1_14)))) rfl rfl rfl ?_
        refine W.skip rfl rfl rfl (rfl) rfl rfl ?_
        refine W.skip rfl rfl rfl (rfl) rfl rfl ?_
        refine W.skip rfl rfl rfl (rfl) rfl rfl ?_
        refine W.skip rfl rfl rfl (rfl) rfl rfl ?_
        refine W.any (.pickT rfl rfl rfl) rfl rfl rfl ?_
        refine W.any (.assign rfl) rfl rfl rfl ?_
        refine W.nil ?_
        refine E.thenN ?_
        refine WC.condT rfl ?_
        refine WC.seq ?_
        refine WC.region ?_
        refine W.any (.assign rfl) rfl rfl rfl ?_
        refine W.nil ?_
        refine E.thenN ?_
        refine WC.ret ?_
        refine E.blkR ?_
        refine E.thenR ?_
        refine E.retG1 rfl rfl ?_
        exact ⟨by unfold lastE; first | (simp [q1_3, q1_9, q1_14]; done) | (simp [q1_3, q1_9, q1_14]; omega) | (have hne : x.pt ≠ ownP h := by omega; simp [q1_3, q1_9, q1_14, hne]; done) | (have hne : x.pt = ownP h := by omega; simp [q1_3, q1_9, q1_14, hne]; first | done | omega), L8⟩
    · refine W.any (.dec (.move rfl) (congrArg not ((Bool.eq_false_iff.2 q1_9)))) rfl rfl rfl ?_
      refine W.skip rfl rfl rfl (rfl) rfl rfl ?_
      refine W.skip rfl rfl rfl (rfl) rfl rfl ?_
      refine W.skip rfl rfl rfl (rfl) rfl rfl ?_
      refine W.any (.pickT rfl rfl rfl) rfl rfl rfl ?_
      refine W.any (.move rfl) rfl rfl rfl ?_
      refine W.skip rfl rfl rfl (rfl) rfl rfl ?_
      refine W.skip rfl rfl rfl (rfl) rfl rfl ?_
      refine W.skip rfl rfl rfl (rfl) rfl rfl ?_
      refine W.skip rfl rfl rfl (rfl) rfl rfl ?_
      refine W.any (.pickT rfl rfl rfl) rfl rfl rfl ?_
      refine W.any (.assign rfl) rfl rfl rfl ?_
      refine W.nil ?_
      refine E.thenN ?_
      refine WC.condT rfl ?_
      refine WC.seq ?_
      refine WC.region ?_
      refine W.any (.assign rfl) rfl rfl rfl ?_
      refine W.nil ?_
      refine E.thenN ?_
      refine WC.ret ?_
      refine E.blkR ?_
      refine E.thenR ?_
      refine E.retG1 rfl rfl ?_
      exact ⟨by unfold lastE; first | (simp [q1_3, q1_9]; done) | (simp [q1_3, q1_9]; omega) | (have hne : x.pt ≠ ownP h := by omega; simp [q1_3, q1_9, hne]; done) | (have hne : x.pt = ownP h := by omega; simp [q1_3, q1_9, hne]; first | done | omega), L6⟩
end Go.Proofs.Ytfgakofjkldcjaa
