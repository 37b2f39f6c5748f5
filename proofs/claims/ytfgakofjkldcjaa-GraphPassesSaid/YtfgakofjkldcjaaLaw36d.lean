/- The statement GraphPasses walked: it answers true and leaves old memory as it was. -/
import Derived.Test.YtfgakofjkldcjaaSmall36
import Derived.Test.YtfgakofjkldcjaaGsp2
import Derived.Test.YtfgakofjkldcjaaHop2
import Derived.Test.YtfgakofjkldcjaaLaw36c
namespace Go.Proofs.Ytfgakofjkldcjaa
open Go Go.Sx Go.Hsp Go.Num Go.Osp Go.Gsp
set_option maxRecDepth 20000
set_option linter.unusedSimpArgs false
set_option linter.unusedVariables false

theorem addP_one {p : Nat} (h : right p = true) : addP p (base 0) = p := by
  have hb : base 0 = 1 := by decide +kernel
  have h1 := (right_iff p).1 h
  rw [hb, addP, taken, taken, if_pos h, if_pos right_one, Nat.mul_one, Nat.mod_eq_of_lt h1.2.1]
theorem fromP_right {p : Nat} (h : right p = true) : ∀ (l : List Nat) (i : Nat), i ≤ l.length → right ((fromP p l).getD i 0) = true
  | [], i, hi => by rw [show i = 0 by simpa using hi]; exact h
  | b :: l, 0, _ => by rw [fromP]; exact right_addP _ _
  | b :: l, i + 1, hi => by rw [fromP]; simpa using fromP_right h l i (by simpa using hi)
theorem fromP_end (p : Nat) : ∀ l : List Nat, (fromP p l).getD l.length 0 = p
  | [] => rfl
  | b :: l => by rw [fromP]; simpa using fromP_end p l
theorem right_lt64 {p : Nat} (h : right p = true) : p < 18446744073709551616 := Nat.lt_trans ((right_iff p).1 h).2.1 M_lt
/-- The condition ahead of hop i. -/
def cAt (C : List Int × List Int × Int) (pts : List Nat) (i : Nat) : Cnd := ⟨0, 0, C.1.getD i 0, pts.getD i 0, C.2.1.getD i 0⟩
theorem cAt_passed {xs : List Gsp.Edge} {a x : Int} {C : List Int × List Int × Int} {pts : List Nat} (hcs : Costs xs a x C.1 C.2.1) {i : Nat} (hi : i < xs.length) (h1 : pts.getD i 0 ≠ 1) (hr : right (pts.getD i 0) = true) : passedB (cAt C pts i) = true := by
  have := hcs.inS hi
  simp only [passedB, cAt, this.1, this.2, hr, Bool.true_and, Bool.and_true, decide_eq_true_eq]
  exact decide_eq_true h1
theorem passes {xs : List Gsp.Edge} {a x : Int} {C : List Int × List Int × Int} {pts bl : List Nat} {ht : Int} {b : Bnd} (hcs : Costs xs a x C.1 C.2.1) {i : Nat} (hi : i + 1 < xs.length) (h1 : ∀ j, j < xs.length → pts.getD j 0 ≠ 1) (hr : ∀ j, j < xs.length → right (pts.getD j 0) = true) (hp : pts.getD i 0 = addP (pts.getD (i + 1) 0) (base (bl.getD i 0)))
    (hw : worldB ht b = true) (hx : ht < x - b.nap) : nextE (hopAt xs C.1 C.2.1 pts bl i) (cAt C pts i) (xs.getD (i + 1) noEdge).pol ht b = (cAt C pts (i + 1), 0) := by
  have hok := edgeOk_T (wayG_at hcs.way (i := i + 1) hi).1
  have hrm := hcs.room (i + 1) hi
  obtain ⟨s1, s2, s3, s4⟩ := hcs.step i hi
  have hge := hcs.ge (xs.length - 2 - i) (i + 1) (by omega)
  have et : toldC (hopAt xs C.1 C.2.1 pts bl i) = cAt C pts (i + 1) := rfl
  have hm : mayE (cAt C pts i) (toldC (hopAt xs C.1 C.2.1 pts bl i)) (xs.getD (i + 1) noEdge).pol ht b = 0 := by
    rw [et]
    unfold mayE
    rw [if_pos ⟨hok.2.2.2.2.2, cAt_passed hcs (by omega) (h1 i (by omega)) (hr i (by omega)), cAt_passed hcs hi (h1 _ hi) (hr _ hi), hw⟩]
    rw [if_pos (show inB (cAt C pts (i + 1)).am _ _ = true from decide_eq_true (by simp only [cAt]; omega)), if_pos (show (feeG _ (cAt C pts (i + 1)).am).2 = true ∧ ¬ (cAt C pts i).am - (cAt C pts (i + 1)).am < (feeG _ (cAt C pts (i + 1)).am).1 from ⟨s1, by simp only [cAt]; omega⟩), if_pos (by simp only [cAt]; omega)]
  unfold nextE
  rw [if_pos ⟨decide_eq_true (by simp only [hopAt]; omega), decide_eq_true (by simp only [hopAt]; omega), by rw [hm]; decide⟩, if_pos (show (cAt C pts i).pt = ownP (hopAt xs C.1 C.2.1 pts bl i) from hp), if_pos hm, et]
theorem ends {xs : List Gsp.Edge} {a x : Int} {C : List Int × List Int × Int} {pts : List Nat} {ht : Int} {b : Bnd} (hcs : Costs xs a x C.1 C.2.1) (h1 : ∀ j, j < xs.length → pts.getD j 0 ≠ 1) (hr : ∀ j, j < xs.length → right (pts.getD j 0) = true) (hw : worldB ht b = true) (hx : ht < x - b.nap) :
    lastE (-1, 0, a, x, pts.getD (xs.length - 1) 0, 0) (cAt C pts (xs.length - 1)) ht b = 0 := by
  have hl := hcs.len
  have hS := hcs.endS
  have hT := hcs.endT
  have hp := cAt_passed hcs (i := xs.length - 1) (by omega) (h1 _ (by omega)) (hr _ (by omega))
  have e : toldC (-1, 0, a, x, pts.getD (xs.length - 1) 0, 0) = cAt C pts (xs.length - 1) := by simp only [toldC, cAt, hS, hT]
  unfold lastE
  rw [if_pos ⟨rfl, by rw [e]; exact hp, hp, hw⟩, if_pos (show (cAt C pts (xs.length - 1)).pt = ownP (-1, 0, a, x, pts.getD (xs.length - 1) 0, 0) from (addP_one (hr _ (by omega))).symm), if_neg (by simp only [cAt, hS]; omega), if_neg (by simp only [cAt, hT]; omega)]
set_option maxHeartbeats 2000000 in
theorem GraphPasses_F (a x : Int) (p : Nat) (hp : p < 18446744073709551616) (ht : Int) (b : Bnd) {seed : List Byte} (hse : seed.length = 32) {A : Option Addr} {n c : Nat} {xs : List Gsp.Edge} (w : World) (hV : Vec w edgeV 9 A n xs) (hnc : n ≤ c) (hn0 : n ≤ 9223372036854775807) (hT : ¬ (right p = true ∧ p ≠ 1 ∧ 1 ≤ n ∧ n ≤ 8)) : Calls Try.prog 11 #[.slice A n c, .int .i64 (a), .int .i64 (x), .int .u64 (((p : Nat) : Int)), .agg (seed.map u8v).toArray, .int .i64 (ht), .agg (bndV b).toArray] w fun r w' => r = .returned (.bool true) ∧ Le w w' := by
  have hl := hV.1
  refine enter Try.func11 rfl rfl ?_
  have L0 := Le.refl w
  refine WC.seq ?_
  refine WC.region ?_
  refine W.ef rfl rfl rfl ?_
  refine Ef.boxA rfl ?_
  intro g0_0 w0_0 hg0_0 b0_0 h0_0
  have L1 := L0.trans h0_0
  have b0_0 : Blk w0_0 g0_0 89 (seed.map u8v).toArray := b0_0
  refine W.ef rfl rfl rfl ?_
  refine Ef.boxA rfl ?_
  intro g0_1 w0_1 hg0_1 b0_1 h0_1
  have L2 := L1.trans h0_1
  have b0_1 : Blk w0_1 g0_1 100 (bndV b).toArray := b0_1
  refine W.any (.assign rfl) rfl rfl rfl ?_
  refine W.nil ?_
  refine E.thenN ?_
  refine WC.seq ?_
  refine WC.region ?_
  refine W.ef rfl rfl rfl ?_
  refine Ef.call go32 rfl rfl (small36_ok w0_1) ?_
  rintro _ w1_0 ⟨rfl, h1_0⟩
  refine ⟨_, rfl, ?_⟩
  have L3 := L2.trans h1_0
  refine W.any (.assign rfl) rfl rfl rfl ?_
  refine W.nil ?_
  refine E.thenN ?_
  refine WC.seq ?_
  refine WC.seq ?_
  refine WC.region ?_
  refine W.any (.move rfl) rfl rfl rfl ?_
  refine W.rd (.len Try.underlying59 rfl) rfl rfl rfl ?_
  refine W.any (.gtr rfl rfl) rfl rfl rfl ?_
  refine W.nil ?_
  refine E.thenN ?_
  by_cases c0 : 20 < ((n : Nat) : Int)
  · refine WC.condY rfl (decide_eq_true c0) ?_
    refine WC.seq ?_
    refine WC.region ?_
    refine W.any (.move rfl) rfl rfl rfl ?_
    refine W.any (.assign rfl) rfl rfl rfl ?_
    refine W.nil ?_
    refine E.thenN ?_
    refine WC.ret ?_
    refine E.thenR ?_
    refine E.retG1 rfl rfl ?_
    exact ⟨rfl, L3⟩
  · refine WC.condN rfl (decide_eq_false c0) ?_
    refine WC.skip ?_
    refine E.thenN ?_
    refine WC.seq ?_
    refine WC.region ?_
    refine W.any (.move rfl) rfl rfl rfl ?_
    have f4 := (b0_0.le (h0_1.trans h1_0))
    refine W.rd (.loadAll ag89 (by simp [hse]) rfl f4) rfl rfl rfl ?_
    refine W.any (.move rfl) rfl rfl rfl ?_
    refine W.rd (.len Try.underlying59 rfl) rfl rfl rfl ?_
    refine W.ef rfl rfl rfl ?_
    refine Ef.call go48 rfl rfl (pnewF_ok p hp seed n hT w1_0) ?_
    rintro _ w4_4 ⟨rfl, h4_4⟩
    refine ⟨_, rfl, ?_⟩
    have L5 := L3.trans h4_4
    refine W.any (.move rfl) rfl rfl rfl ?_
    refine W.any (.extract (v := .agg #[.slice none 0 0, .slice none 0 0]) rfl rfl) rfl rfl rfl ?_
    refine W.any (.extract (v := .bool false) rfl rfl) rfl rfl rfl ?_
    refine W.ef rfl rfl rfl ?_
    refine Ef.allocA z63 ?_
    intro g4_8 w4_8 hg4_8 b4_8 h4_8
    have L6 := L5.trans h4_8
    have b4_8 : Blk w4_8 g4_8 63 #[.slice none 0 0, .slice none 0 0] := b4_8
    refine W.ef0 rfl rfl ?_
    refine Ef.storeAll sz63 (by rfl) rfl rfl b4_8 (by rfl) (by simp [Value.oneCell']) ?_
    intro w4_9 b4_9 h4_9
    have b4_9 : Blk w4_9 g4_8 63 #[.slice none 0 0, .slice none 0 0] := b4_9
    have L7 : Le w w4_9 := L6.then_ h4_9 (fun q hq => by cases hq; exact Nat.le_trans L5.size hg4_8)
    refine W.any (.assign rfl) rfl rfl rfl ?_
    refine W.nil ?_
    refine E.thenN ?_
    refine WC.seq ?_
    refine WC.region ?_
    refine W.any (.move rfl) rfl rfl rfl ?_
    refine W.any (.move rfl) rfl rfl rfl ?_
    refine W.any (.move rfl) rfl rfl rfl ?_
    refine W.rd (.loadAll ag63 (by rfl) rfl b4_9) rfl rfl rfl ?_
    refine W.ef rfl rfl rfl ?_
    refine Ef.call go35 rfl rfl (hops_ok a x w4_9 (hV.le L7) (by omega) (Vec.nil _ _ _ _) (by omega) (Vec.nil _ _ _ _) (by omega) (by omega)) ?_
    rintro _ w5_4 ⟨Ah5_4, ch5_4, rfl, oh5_4, h5_4⟩
    refine ⟨_, rfl, ?_⟩
    have L8 := L7.trans h5_4
    have hokHG := @hopsG_ok xs a x ([]) ([])
    have hbadHG := @hopsG_bad xs a x ([]) ([])
    have hshHG := hopsG_short xs a x ([]) ([])
    generalize hgenHG : hopsG xs a x ([]) ([]) = HG at *
    refine W.any (.move rfl) rfl rfl rfl ?_
    refine W.any (.extract (v := .slice Ah5_4 HG.1.length ch5_4) rfl rfl) rfl rfl rfl ?_
    refine W.any (.extract (v := .int .i64 (HG.2)) rfl rfl) rfl rfl rfl ?_
    refine W.any (.assign rfl) rfl rfl rfl ?_
    refine W.any (.assign rfl) rfl rfl rfl ?_
    refine W.nil ?_
    refine E.thenN ?_
    refine WC.seq ?_
    refine WC.region ?_
    refine W.any (.move rfl) rfl rfl rfl ?_
    refine W.any (.move rfl) rfl rfl rfl ?_
    refine W.any (.move rfl) rfl rfl rfl ?_
    refine W.ef rfl rfl rfl ?_
    refine Ef.call go33 rfl rfl (cost_ok a x w5_4 (hV.le L8) (by omega)) ?_
    rintro _ w6_3 ⟨Aa6_3, ca6_3, Ab6_3, cb6_3, rfl, oa6_3, ob6_3, h6_3⟩
    refine ⟨_, rfl, ?_⟩
    have L9 := L8.trans h6_3
    have hcsC := fun h => @costs_of a x xs h
    have hcbC := @costG_bad xs a x
    generalize hgenC : costG xs a x = C at *
    refine W.any (.move rfl) rfl rfl rfl ?_
    refine W.any (.extract (v := .slice Aa6_3 C.1.length ca6_3) rfl rfl) rfl rfl rfl ?_
    refine W.any (.extract (v := .slice Ab6_3 C.2.1.length cb6_3) rfl rfl) rfl rfl rfl ?_
    refine W.any (.extract (v := .int .i64 (C.2.2)) rfl rfl) rfl rfl rfl ?_
    refine W.any (.assign rfl) rfl rfl rfl ?_
    refine W.any (.assign rfl) rfl rfl rfl ?_
    refine W.any (.assign rfl) rfl rfl rfl ?_
    refine W.nil ?_
    refine E.thenN ?_
    refine WC.seq ?_
    refine WC.seq ?_
    refine WC.region ?_
    refine W.any (.move rfl) rfl rfl rfl ?_
    refine W.any (.not rfl) rfl rfl rfl ?_
    refine W.any (.move rfl) rfl rfl rfl ?_
    refine W.skip rfl rfl rfl (rfl) rfl rfl ?_
    refine W.skip rfl rfl rfl (rfl) rfl rfl ?_
    refine W.any (.pickT rfl rfl rfl) rfl rfl rfl ?_
    refine W.nil ?_
    refine E.thenN ?_
    refine WC.condT rfl ?_
    have hG2 : HG.2 ≠ 0 := fun h => by obtain ⟨hc0, hp0, hb0, hG, hGl⟩ := hokHG h; have := (hcsC hc0).len; simp at hp0; omega
    have hG1 := hbadHG hG2
    refine WC.seq ?_
    refine WC.region ?_
    refine W.any (.move rfl) rfl rfl rfl ?_
    refine W.any (.move rfl) rfl rfl rfl ?_
    refine W.rdg (Any.rd (.move rfl) _) rfl rfl rfl (rfl) rfl rfl ?_
    refine W.rdg (Any.rd (.neq rfl rfl) _) rfl rfl rfl (rfl) rfl rfl ?_
    refine W.rdg (Any.rd (.dec (.move rfl) (decide_eq_true (by omega))) _) rfl rfl rfl (rfl) rfl rfl ?_
    refine W.skip rfl rfl rfl (rfl) rfl rfl ?_
    refine W.skip rfl rfl rfl (rfl) rfl rfl ?_
    refine W.rdg (Any.rd (.pickT rfl rfl rfl) _) rfl rfl rfl (rfl) rfl rfl ?_
    refine W.rdg (Any.rd (.move rfl) _) rfl rfl rfl (rfl) rfl rfl ?_
    refine W.skip rfl rfl rfl (rfl) rfl rfl ?_
    refine W.skip rfl rfl rfl (rfl) rfl rfl ?_
    refine W.skip rfl rfl rfl (rfl) rfl rfl ?_
    refine W.rdg (Any.rd (.pickT rfl rfl rfl) _) rfl rfl rfl (rfl) rfl rfl ?_
    refine W.any (.pickT rfl rfl rfl) rfl rfl rfl ?_
    refine W.any (.move rfl) rfl rfl rfl ?_
    refine W.rdg (Any.rd (.move rfl) _) rfl rfl rfl (rfl) rfl rfl ?_
    refine W.rdg (.len Try.underlying66 rfl) rfl rfl rfl (rfl) rfl rfl ?_
    refine W.rdg (Any.rd (.dec (.eql rfl rfl) (decide_eq_true (by rw [hG1]; rfl))) _) rfl rfl rfl (rfl) rfl rfl ?_
    refine W.any (.pickT rfl rfl rfl) rfl rfl rfl ?_
    refine W.any (.assign rfl) rfl rfl rfl ?_
    refine W.nil ?_
    refine E.thenN ?_
    refine WC.ret ?_
    refine E.thenR ?_
    refine E.retG1 rfl rfl ?_
    exact ⟨rfl, L9⟩

set_option maxHeartbeats 2000000 in
theorem GraphPasses_T (a x : Int) (p : Nat) (hp : p < 18446744073709551616) (ht : Int) (b : Bnd) {seed : List Byte} (hse : seed.length = 32) {A : Option Addr} {n c : Nat} {xs : List Gsp.Edge} (w : World) (hV : Vec w edgeV 9 A n xs) (hnc : n ≤ c) (hn0 : n ≤ 9223372036854775807) (hT : (right p = true ∧ p ≠ 1 ∧ 1 ≤ n ∧ n ≤ 8)) : Calls Try.prog 11 #[.slice A n c, .int .i64 (a), .int .i64 (x), .int .u64 (((p : Nat) : Int)), .agg (seed.map u8v).toArray, .int .i64 (ht), .agg (bndV b).toArray] w fun r w' => r = .returned (.bool true) ∧ Le w w' := by
  have hl := hV.1
  refine enter Try.func11 rfl rfl ?_
  have L0 := Le.refl w
  refine WC.seq ?_
  refine WC.region ?_
  refine W.ef rfl rfl rfl ?_
  refine Ef.boxA rfl ?_
  intro g0_0 w0_0 hg0_0 b0_0 h0_0
  have L1 := L0.trans h0_0
  have b0_0 : Blk w0_0 g0_0 89 (seed.map u8v).toArray := b0_0
  refine W.ef rfl rfl rfl ?_
  refine Ef.boxA rfl ?_
  intro g0_1 w0_1 hg0_1 b0_1 h0_1
  have L2 := L1.trans h0_1
  have b0_1 : Blk w0_1 g0_1 100 (bndV b).toArray := b0_1
  refine W.any (.assign rfl) rfl rfl rfl ?_
  refine W.nil ?_
  refine E.thenN ?_
  refine WC.seq ?_
  refine WC.region ?_
  refine W.ef rfl rfl rfl ?_
  refine Ef.call go32 rfl rfl (small36_ok w0_1) ?_
  rintro _ w1_0 ⟨rfl, h1_0⟩
  refine ⟨_, rfl, ?_⟩
  have L3 := L2.trans h1_0
  refine W.any (.assign rfl) rfl rfl rfl ?_
  refine W.nil ?_
  refine E.thenN ?_
  refine WC.seq ?_
  refine WC.seq ?_
  refine WC.region ?_
  refine W.any (.move rfl) rfl rfl rfl ?_
  refine W.rd (.len Try.underlying59 rfl) rfl rfl rfl ?_
  refine W.any (.gtr rfl rfl) rfl rfl rfl ?_
  refine W.nil ?_
  refine E.thenN ?_
  by_cases c0 : 20 < ((n : Nat) : Int)
  · refine WC.condY rfl (decide_eq_true c0) ?_
    refine WC.seq ?_
    refine WC.region ?_
    refine W.any (.move rfl) rfl rfl rfl ?_
    refine W.any (.assign rfl) rfl rfl rfl ?_
    refine W.nil ?_
    refine E.thenN ?_
    refine WC.ret ?_
    refine E.thenR ?_
    refine E.retG1 rfl rfl ?_
    exact ⟨rfl, L3⟩
  · refine WC.condN rfl (decide_eq_false c0) ?_
    refine WC.skip ?_
    refine E.thenN ?_
    refine WC.seq ?_
    refine WC.region ?_
    refine W.any (.move rfl) rfl rfl rfl ?_
    have f4 := (b0_0.le (h0_1.trans h1_0))
    refine W.rd (.loadAll ag89 (by simp [hse]) rfl f4) rfl rfl rfl ?_
    refine W.any (.move rfl) rfl rfl rfl ?_
    refine W.rd (.len Try.underlying59 rfl) rfl rfl rfl ?_
    refine W.ef rfl rfl rfl ?_
    refine Ef.call go48 rfl rfl (pnew_ok p hp hT.1 hT.2.1 seed hse n (by omega) (by omega) w1_0) ?_
    rintro _ w4_4 ⟨gp, Abl, cbl, rfl, hgp, bp, obl, h4_4⟩
    refine ⟨_, rfl, ?_⟩
    have L5 := L3.trans h4_4
    obtain ⟨bl, hbl⟩ : ∃ bl, bl = blindsP seed (n - 1) := ⟨_, rfl⟩
    rw [← hbl] at bp obl
    have hbll : bl.length = n - 1 := by rw [hbl, blindsP_length]
    obtain ⟨pts, hpts⟩ : ∃ p0, p0 = fromP p bl := ⟨_, rfl⟩
    rw [← hpts] at bp
    have hptl : pts.length = n := by rw [hpts, fromP_length, hbll]; omega
    have op : OVec w4_4 w1_0.heap.size 31 pv1 1 (some ⟨gp, 0, none⟩) n n pts := bp.ovec hgp pv1_row (flat_sing (g1 := pv) pts).symm hptl (by unfold maxLen; omega)
    have obl : OVec w4_4 w1_0.heap.size 30 pv1 1 Abl (n - 1) cbl bl := Own.ovec (g1 := pv) obl
    refine W.any (.move rfl) rfl rfl rfl ?_
    refine W.any (.extract (v := .agg #[.slice (some ⟨gp, 0, none⟩) n n, .slice Abl (n - 1) cbl]) rfl rfl) rfl rfl rfl ?_
    refine W.any (.extract (v := .bool true) rfl rfl) rfl rfl rfl ?_
    refine W.ef rfl rfl rfl ?_
    refine Ef.allocA z63 ?_
    intro g4_8 w4_8 hg4_8 b4_8 h4_8
    have L6 := L5.trans h4_8
    have b4_8 : Blk w4_8 g4_8 63 #[.slice none 0 0, .slice none 0 0] := b4_8
    refine W.ef0 rfl rfl ?_
    refine Ef.storeAll sz63 (by rfl) rfl rfl b4_8 (by rfl) (by simp [Value.oneCell']) ?_
    intro w4_9 b4_9 h4_9
    have b4_9 : Blk w4_9 g4_8 63 #[.slice (some ⟨gp, 0, none⟩) n n, .slice Abl (n - 1) cbl] := b4_9
    have L7 : Le w w4_9 := L6.then_ h4_9 (fun q hq => by cases hq; exact Nat.le_trans L5.size hg4_8)
    refine W.any (.assign rfl) rfl rfl rfl ?_
    refine W.nil ?_
    refine E.thenN ?_
    refine WC.seq ?_
    refine WC.region ?_
    refine W.any (.move rfl) rfl rfl rfl ?_
    refine W.any (.move rfl) rfl rfl rfl ?_
    refine W.any (.move rfl) rfl rfl rfl ?_
    refine W.rd (.loadAll ag63 (by rfl) rfl b4_9) rfl rfl rfl ?_
    have f8 := ((op.le h4_8).ch h4_9 (fun q hq => by cases hq; exact (fun he => by have := (op.row he).2; omega)))
    have f9 := ((obl.le h4_8).ch h4_9 (fun q hq => by cases hq; exact (fun he => by have := (obl.row he).2; omega)))
    refine W.ef rfl rfl rfl ?_
    refine Ef.call go35 rfl rfl (hops_ok a x w4_9 (hV.le L7) (by omega) f8.vec (by omega) f9.vec (by omega) (by omega)) ?_
    rintro _ w5_4 ⟨Ah5_4, ch5_4, rfl, oh5_4, h5_4⟩
    refine ⟨_, rfl, ?_⟩
    have L10 := L7.trans h5_4
    have hokHG := @hopsG_ok xs a x pts bl
    have hbadHG := @hopsG_bad xs a x pts bl
    have hshHG := hopsG_short xs a x pts bl
    generalize hgenHG : hopsG xs a x pts bl = HG at *
    refine W.any (.move rfl) rfl rfl rfl ?_
    refine W.any (.extract (v := .slice Ah5_4 HG.1.length ch5_4) rfl rfl) rfl rfl rfl ?_
    refine W.any (.extract (v := .int .i64 (HG.2)) rfl rfl) rfl rfl rfl ?_
    refine W.any (.assign rfl) rfl rfl rfl ?_
    refine W.any (.assign rfl) rfl rfl rfl ?_
    refine W.nil ?_
    refine E.thenN ?_
    refine WC.seq ?_
    refine WC.region ?_
    refine W.any (.move rfl) rfl rfl rfl ?_
    refine W.any (.move rfl) rfl rfl rfl ?_
    refine W.any (.move rfl) rfl rfl rfl ?_
    refine W.ef rfl rfl rfl ?_
    refine Ef.call go33 rfl rfl (cost_ok a x w5_4 (hV.le L10) (by omega)) ?_
    rintro _ w6_3 ⟨Aa6_3, ca6_3, Ab6_3, cb6_3, rfl, oa6_3, ob6_3, h6_3⟩
    refine ⟨_, rfl, ?_⟩
    have L11 := L10.trans h6_3
    have hcsC := fun h => @costs_of a x xs h
    have hcbC := @costG_bad xs a x
    generalize hgenC : costG xs a x = C at *
    refine W.any (.move rfl) rfl rfl rfl ?_
    refine W.any (.extract (v := .slice Aa6_3 C.1.length ca6_3) rfl rfl) rfl rfl rfl ?_
    refine W.any (.extract (v := .slice Ab6_3 C.2.1.length cb6_3) rfl rfl) rfl rfl rfl ?_
    refine W.any (.extract (v := .int .i64 (C.2.2)) rfl rfl) rfl rfl rfl ?_
    refine W.any (.assign rfl) rfl rfl rfl ?_
    refine W.any (.assign rfl) rfl rfl rfl ?_
    refine W.any (.assign rfl) rfl rfl rfl ?_
    refine W.nil ?_
    refine E.thenN ?_
    refine WC.seq ?_
    refine WC.seq ?_
    refine WC.region ?_
    refine W.any (.move rfl) rfl rfl rfl ?_
    refine W.any (.not rfl) rfl rfl rfl ?_
    refine W.any (.move rfl) rfl rfl rfl ?_
    refine W.rdg (Any.rd (.move rfl) _) rfl rfl rfl (rfl) rfl rfl ?_
    refine W.rdg (Any.rd (.neq rfl rfl) _) rfl rfl rfl (rfl) rfl rfl ?_
    refine W.any (.pickF rfl rfl rfl) rfl rfl rfl ?_
    refine W.nil ?_
    refine E.thenN ?_
    by_cases c1 : HG.2 ≠ 0
    · refine WC.condY rfl (decide_eq_true c1) ?_
      have hG1 := hbadHG (by assumption)
      refine WC.seq ?_
      refine WC.region ?_
      refine W.any (.move rfl) rfl rfl rfl ?_
      refine W.any (.move rfl) rfl rfl rfl ?_
      refine W.rdg (Any.rd (.move rfl) _) rfl rfl rfl (rfl) rfl rfl ?_
      refine W.rdg (Any.rd (.neq rfl rfl) _) rfl rfl rfl (rfl) rfl rfl ?_
      refine W.rdg (Any.rd (.dec (.move rfl) (decide_eq_true (by omega))) _) rfl rfl rfl (rfl) rfl rfl ?_
      refine W.skip rfl rfl rfl (rfl) rfl rfl ?_
      refine W.skip rfl rfl rfl (rfl) rfl rfl ?_
      refine W.rdg (Any.rd (.pickT rfl rfl rfl) _) rfl rfl rfl (rfl) rfl rfl ?_
      refine W.rdg (Any.rd (.move rfl) _) rfl rfl rfl (rfl) rfl rfl ?_
      refine W.skip rfl rfl rfl (rfl) rfl rfl ?_
      refine W.skip rfl rfl rfl (rfl) rfl rfl ?_
      refine W.skip rfl rfl rfl (rfl) rfl rfl ?_
      refine W.rdg (Any.rd (.pickT rfl rfl rfl) _) rfl rfl rfl (rfl) rfl rfl ?_
      refine W.any (.pickT rfl rfl rfl) rfl rfl rfl ?_
      refine W.any (.move rfl) rfl rfl rfl ?_
      refine W.rdg (Any.rd (.move rfl) _) rfl rfl rfl (rfl) rfl rfl ?_
      refine W.rdg (.len Try.underlying66 rfl) rfl rfl rfl (rfl) rfl rfl ?_
      refine W.rdg (Any.rd (.dec (.eql rfl rfl) (decide_eq_true (by rw [hG1]; rfl))) _) rfl rfl rfl (rfl) rfl rfl ?_
      refine W.any (.pickT rfl rfl rfl) rfl rfl rfl ?_
      refine W.any (.assign rfl) rfl rfl rfl ?_
      refine W.nil ?_
      refine E.thenN ?_
      refine WC.ret ?_
      refine E.thenR ?_
      refine E.retG1 rfl rfl ?_
      exact ⟨rfl, L11⟩
    · refine WC.condN rfl (decide_eq_false c1) ?_
      obtain ⟨hc0, hp0, hb0, hG, hGl⟩ := hokHG (Decidable.not_not.1 (by assumption))
      have hcs := hcsC hc0
      have hlS := hcs.lenS
      have hlT := hcs.lenT
      have hwl := hcs.len
      have hamt := hcs.amt
      have hexp := hcs.exp
      have hat := hopsL_at xs C.1 C.2.1 pts bl a x
      rw [← hG] at hat
      have hrt : ∀ j, j < xs.length → right (pts.getD j 0) = true := fun j hj => by rw [hpts]; exact fromP_right hT.1 bl j (by omega)
      have hpat : ∀ i, i + 1 < xs.length → pts.getD i 0 = addP (pts.getD (i + 1) 0) (base (bl.getD i 0)) := fun i hi => by rw [hpts]; exact fromP_at p bl i (by omega)
      refine WC.skip ?_
      refine E.thenN ?_
      refine WC.seq ?_
      refine WC.seq ?_
      refine WC.region ?_
      refine W.any (.move rfl) rfl rfl rfl ?_
      refine W.rd (.len Try.underlying66 rfl) rfl rfl rfl ?_
      refine W.any (.move rfl) rfl rfl rfl ?_
      refine W.rd (.len Try.underlying59 rfl) rfl rfl rfl ?_
      refine W.any (.neq rfl rfl) rfl rfl rfl ?_
      refine W.any (.dec (.move rfl) (decide_eq_false (by omega))) rfl rfl rfl ?_
      refine W.rdg (Any.rd (.move rfl) _) rfl rfl rfl (rfl) rfl rfl ?_
      refine W.rdg (Any.rd (.neq rfl rfl) _) rfl rfl rfl (rfl) rfl rfl ?_
      refine W.any (.pickF rfl rfl rfl) rfl rfl rfl ?_
      refine W.any (.dec (.move rfl) (decide_eq_false (by omega))) rfl rfl rfl ?_
      refine W.rdg (Any.rd (.move rfl) _) rfl rfl rfl (rfl) rfl rfl ?_
      refine W.rdg (.len Try.underlying53 rfl) rfl rfl rfl (rfl) rfl rfl ?_
      refine W.rdg (Any.rd (.move rfl) _) rfl rfl rfl (rfl) rfl rfl ?_
      refine W.rdg (.len Try.underlying59 rfl) rfl rfl rfl (rfl) rfl rfl ?_
      refine W.rdg (Any.rd (.neq rfl rfl) _) rfl rfl rfl (rfl) rfl rfl ?_
      refine W.any (.pickF rfl rfl rfl) rfl rfl rfl ?_
      refine W.any (.dec (.move rfl) (decide_eq_false (by omega))) rfl rfl rfl ?_
      refine W.rdg (Any.rd (.move rfl) _) rfl rfl rfl (rfl) rfl rfl ?_
      refine W.rdg (.len Try.underlying53 rfl) rfl rfl rfl (rfl) rfl rfl ?_
      refine W.rdg (Any.rd (.move rfl) _) rfl rfl rfl (rfl) rfl rfl ?_
      refine W.rdg (.len Try.underlying59 rfl) rfl rfl rfl (rfl) rfl rfl ?_
      refine W.rdg (Any.rd (.neq rfl rfl) _) rfl rfl rfl (rfl) rfl rfl ?_
      refine W.any (.pickF rfl rfl rfl) rfl rfl rfl ?_
      refine W.nil ?_
      refine E.thenN ?_
      refine WC.condN rfl (decide_eq_false (by omega)) ?_
      refine WC.skip ?_
      refine E.thenN ?_
      refine WC.seq ?_
      refine WC.seq ?_
      refine WC.region ?_
      refine W.any (.move rfl) rfl rfl rfl ?_
      refine W.any (.lss rfl rfl) rfl rfl rfl ?_
      by_cases q11_2 : ht < 0
      · refine W.any (.dec (.move rfl) (decide_eq_true q11_2)) rfl rfl rfl ?_
        refine W.skip rfl rfl rfl (rfl) rfl rfl ?_
        refine W.skip rfl rfl rfl (rfl) rfl rfl ?_
        refine W.skip rfl rfl rfl (rfl) rfl rfl ?_
        refine W.any (.pickT rfl rfl rfl) rfl rfl rfl ?_
        refine W.any (.move rfl) rfl rfl rfl ?_
        refine W.skip rfl rfl rfl (rfl) rfl rfl ?_
        refine W.skip rfl rfl rfl (rfl) rfl rfl ?_
        refine W.skip rfl rfl rfl (rfl) rfl rfl ?_
        refine W.any (.pickT rfl rfl rfl) rfl rfl rfl ?_
        refine W.any (.move rfl) rfl rfl rfl ?_
        refine W.skip rfl rfl rfl (rfl) rfl rfl ?_
        refine W.skip rfl rfl rfl (rfl) rfl rfl ?_
        refine W.skip rfl rfl rfl (rfl) rfl rfl ?_
        refine W.any (.pickT rfl rfl rfl) rfl rfl rfl ?_
        refine W.any (.move rfl) rfl rfl rfl ?_
        refine W.skip rfl rfl rfl (rfl) rfl rfl ?_
        refine W.skip rfl rfl rfl (rfl) rfl rfl ?_
        refine W.skip rfl rfl rfl (rfl) rfl rfl ?_
        refine W.any (.pickT rfl rfl rfl) rfl rfl rfl ?_
        refine W.any (.move rfl) rfl rfl rfl ?_
        refine W.skip rfl rfl rfl (rfl) rfl rfl ?_
        refine W.skip rfl rfl rfl (rfl) rfl rfl ?_
        refine W.skip rfl rfl rfl (rfl) rfl rfl ?_
        refine W.any (.pickT rfl rfl rfl) rfl rfl rfl ?_
        refine W.any (.move rfl) rfl rfl rfl ?_
        refine W.skip rfl rfl rfl (rfl) rfl rfl ?_
        refine W.skip rfl rfl rfl (rfl) rfl rfl ?_
        refine W.skip rfl rfl rfl (rfl) rfl rfl ?_
        refine W.any (.pickT rfl rfl rfl) rfl rfl rfl ?_
        refine W.any (.move rfl) rfl rfl rfl ?_
        refine W.skip rfl rfl rfl (rfl) rfl rfl ?_
        refine W.skip rfl rfl rfl (rfl) rfl rfl ?_
        refine W.skip rfl rfl rfl (rfl) rfl rfl ?_
        refine W.skip rfl rfl rfl (rfl) rfl rfl ?_
        refine W.skip rfl rfl rfl (rfl) rfl rfl ?_
        refine W.skip rfl rfl rfl (rfl) rfl rfl ?_
        refine W.any (.pickT rfl rfl rfl) rfl rfl rfl ?_
        refine W.nil ?_
        refine E.thenN ?_
        refine WC.condT rfl ?_
        refine WC.seq ?_
        refine WC.region ?_
        refine W.any (.move rfl) rfl rfl rfl ?_
        refine W.any (.assign rfl) rfl rfl rfl ?_
        refine W.nil ?_
        refine E.thenN ?_
        refine WC.ret ?_
        refine E.thenR ?_
        refine E.retG1 rfl rfl ?_
        exact ⟨rfl, L11⟩
      · refine W.any (.dec (.move rfl) (decide_eq_false q11_2)) rfl rfl rfl ?_
        refine W.rdg (Any.rd (.field0 fa100_0 rfl) _) rfl rfl rfl (rfl) rfl rfl ?_
        have f12 := (((b0_1.le (h1_0.trans (h4_4.trans h4_8))).ch h4_9 (fun h => (show g4_8 ≠ g0_1 from by have := b0_1.lt; have := h1_0.size; have := h4_4.size; omega) (Option.some.inj h))).le (h5_4.trans h6_3))
        refine W.rdg (.loadB (v := .int .i64 (b.jam)) na3 rfl f12 rfl) rfl rfl rfl (rfl) rfl rfl ?_
        refine W.rdg (Any.rd (.lss rfl rfl) _) rfl rfl rfl (rfl) rfl rfl ?_
        refine W.any (.pickF rfl rfl rfl) rfl rfl rfl ?_
        by_cases q11_7 : b.jam < 0
        · refine W.any (.dec (.move rfl) (decide_eq_true q11_7)) rfl rfl rfl ?_
          refine W.skip rfl rfl rfl (rfl) rfl rfl ?_
          refine W.skip rfl rfl rfl (rfl) rfl rfl ?_
          refine W.skip rfl rfl rfl (rfl) rfl rfl ?_
          refine W.any (.pickT rfl rfl rfl) rfl rfl rfl ?_
          refine W.any (.move rfl) rfl rfl rfl ?_
          refine W.skip rfl rfl rfl (rfl) rfl rfl ?_
          refine W.skip rfl rfl rfl (rfl) rfl rfl ?_
          refine W.skip rfl rfl rfl (rfl) rfl rfl ?_
          refine W.any (.pickT rfl rfl rfl) rfl rfl rfl ?_
          refine W.any (.move rfl) rfl rfl rfl ?_
          refine W.skip rfl rfl rfl (rfl) rfl rfl ?_
          refine W.skip rfl rfl rfl (rfl) rfl rfl ?_
          refine W.skip rfl rfl rfl (rfl) rfl rfl ?_
          refine W.any (.pickT rfl rfl rfl) rfl rfl rfl ?_
          refine W.any (.move rfl) rfl rfl rfl ?_
          refine W.skip rfl rfl rfl (rfl) rfl rfl ?_
          refine W.skip rfl rfl rfl (rfl) rfl rfl ?_
          refine W.skip rfl rfl rfl (rfl) rfl rfl ?_
          refine W.any (.pickT rfl rfl rfl) rfl rfl rfl ?_
          refine W.any (.move rfl) rfl rfl rfl ?_
          refine W.skip rfl rfl rfl (rfl) rfl rfl ?_
          refine W.skip rfl rfl rfl (rfl) rfl rfl ?_
          refine W.skip rfl rfl rfl (rfl) rfl rfl ?_
          refine W.any (.pickT rfl rfl rfl) rfl rfl rfl ?_
          refine W.any (.move rfl) rfl rfl rfl ?_
          refine W.skip rfl rfl rfl (rfl) rfl rfl ?_
          refine W.skip rfl rfl rfl (rfl) rfl rfl ?_
          refine W.skip rfl rfl rfl (rfl) rfl rfl ?_
          refine W.skip rfl rfl rfl (rfl) rfl rfl ?_
          refine W.skip rfl rfl rfl (rfl) rfl rfl ?_
          refine W.skip rfl rfl rfl (rfl) rfl rfl ?_
          refine W.any (.pickT rfl rfl rfl) rfl rfl rfl ?_
          refine W.nil ?_
          refine E.thenN ?_
          refine WC.condT rfl ?_
          refine WC.seq ?_
          refine WC.region ?_
          refine W.any (.move rfl) rfl rfl rfl ?_
          refine W.any (.assign rfl) rfl rfl rfl ?_
          refine W.nil ?_
          refine E.thenN ?_
          refine WC.ret ?_
          refine E.thenR ?_
          refine E.retG1 rfl rfl ?_
          exact ⟨rfl, L11⟩
        · refine W.any (.dec (.move rfl) (decide_eq_false q11_7)) rfl rfl rfl ?_
          refine W.rdg (Any.rd (.field0 fa100_1 rfl) _) rfl rfl rfl (rfl) rfl rfl ?_
          refine W.rdg (.loadB (v := .int .i64 (b.bar)) na3 rfl f12 rfl) rfl rfl rfl (rfl) rfl rfl ?_
          refine W.rdg (Any.rd (.lss rfl rfl) _) rfl rfl rfl (rfl) rfl rfl ?_
          refine W.any (.pickF rfl rfl rfl) rfl rfl rfl ?_
          by_cases q11_12 : b.bar < 0
          · refine W.any (.dec (.move rfl) (decide_eq_true q11_12)) rfl rfl rfl ?_
            refine W.skip rfl rfl rfl (rfl) rfl rfl ?_
            refine W.skip rfl rfl rfl (rfl) rfl rfl ?_
            refine W.skip rfl rfl rfl (rfl) rfl rfl ?_
            refine W.any (.pickT rfl rfl rfl) rfl rfl rfl ?_
            refine W.any (.move rfl) rfl rfl rfl ?_
            refine W.skip rfl rfl rfl (rfl) rfl rfl ?_
            refine W.skip rfl rfl rfl (rfl) rfl rfl ?_
            refine W.skip rfl rfl rfl (rfl) rfl rfl ?_
            refine W.any (.pickT rfl rfl rfl) rfl rfl rfl ?_
            refine W.any (.move rfl) rfl rfl rfl ?_
            refine W.skip rfl rfl rfl (rfl) rfl rfl ?_
            refine W.skip rfl rfl rfl (rfl) rfl rfl ?_
            refine W.skip rfl rfl rfl (rfl) rfl rfl ?_
            refine W.any (.pickT rfl rfl rfl) rfl rfl rfl ?_
            refine W.any (.move rfl) rfl rfl rfl ?_
            refine W.skip rfl rfl rfl (rfl) rfl rfl ?_
            refine W.skip rfl rfl rfl (rfl) rfl rfl ?_
            refine W.skip rfl rfl rfl (rfl) rfl rfl ?_
            refine W.any (.pickT rfl rfl rfl) rfl rfl rfl ?_
            refine W.any (.move rfl) rfl rfl rfl ?_
            refine W.skip rfl rfl rfl (rfl) rfl rfl ?_
            refine W.skip rfl rfl rfl (rfl) rfl rfl ?_
            refine W.skip rfl rfl rfl (rfl) rfl rfl ?_
            refine W.skip rfl rfl rfl (rfl) rfl rfl ?_
            refine W.skip rfl rfl rfl (rfl) rfl rfl ?_
            refine W.skip rfl rfl rfl (rfl) rfl rfl ?_
            refine W.any (.pickT rfl rfl rfl) rfl rfl rfl ?_
            refine W.nil ?_
            refine E.thenN ?_
            refine WC.condT rfl ?_
            refine WC.seq ?_
            refine WC.region ?_
            refine W.any (.move rfl) rfl rfl rfl ?_
            refine W.any (.assign rfl) rfl rfl rfl ?_
            refine W.nil ?_
            refine E.thenN ?_
            refine WC.ret ?_
            refine E.thenR ?_
            refine E.retG1 rfl rfl ?_
            exact ⟨rfl, L11⟩
          · refine W.any (.dec (.move rfl) (decide_eq_false q11_12)) rfl rfl rfl ?_
            refine W.rdg (Any.rd (.field0 fa100_2 rfl) _) rfl rfl rfl (rfl) rfl rfl ?_
            refine W.rdg (.loadB (v := .int .i64 (b.nap)) na3 rfl f12 rfl) rfl rfl rfl (rfl) rfl rfl ?_
            refine W.rdg (Any.rd (.lss rfl rfl) _) rfl rfl rfl (rfl) rfl rfl ?_
            refine W.any (.pickF rfl rfl rfl) rfl rfl rfl ?_
            by_cases q11_17 : b.nap < 0
            · refine W.any (.dec (.move rfl) (decide_eq_true q11_17)) rfl rfl rfl ?_
              refine W.skip rfl rfl rfl (rfl) rfl rfl ?_
              refine W.skip rfl rfl rfl (rfl) rfl rfl ?_
              refine W.skip rfl rfl rfl (rfl) rfl rfl ?_
              refine W.any (.pickT rfl rfl rfl) rfl rfl rfl ?_
              refine W.any (.move rfl) rfl rfl rfl ?_
              refine W.skip rfl rfl rfl (rfl) rfl rfl ?_
              refine W.skip rfl rfl rfl (rfl) rfl rfl ?_
              refine W.skip rfl rfl rfl (rfl) rfl rfl ?_
              refine W.any (.pickT rfl rfl rfl) rfl rfl rfl ?_
              refine W.any (.move rfl) rfl rfl rfl ?_
              refine W.skip rfl rfl rfl (rfl) rfl rfl ?_
              refine W.skip rfl rfl rfl (rfl) rfl rfl ?_
              refine W.skip rfl rfl rfl (rfl) rfl rfl ?_
              refine W.any (.pickT rfl rfl rfl) rfl rfl rfl ?_
              refine W.any (.move rfl) rfl rfl rfl ?_
              refine W.skip rfl rfl rfl (rfl) rfl rfl ?_
              refine W.skip rfl rfl rfl (rfl) rfl rfl ?_
              refine W.skip rfl rfl rfl (rfl) rfl rfl ?_
              refine W.skip rfl rfl rfl (rfl) rfl rfl ?_
              refine W.skip rfl rfl rfl (rfl) rfl rfl ?_
              refine W.skip rfl rfl rfl (rfl) rfl rfl ?_
              refine W.any (.pickT rfl rfl rfl) rfl rfl rfl ?_
              refine W.nil ?_
              refine E.thenN ?_
              refine WC.condT rfl ?_
              refine WC.seq ?_
              refine WC.region ?_
              refine W.any (.move rfl) rfl rfl rfl ?_
              refine W.any (.assign rfl) rfl rfl rfl ?_
              refine W.nil ?_
              refine E.thenN ?_
              refine WC.ret ?_
              refine E.thenR ?_
              refine E.retG1 rfl rfl ?_
              exact ⟨rfl, L11⟩
            · refine W.any (.dec (.move rfl) (decide_eq_false q11_17)) rfl rfl rfl ?_
              refine W.rdg (Any.rd (.field0 fa100_0 rfl) _) rfl rfl rfl (rfl) rfl rfl ?_
              refine W.rdg (.loadB (v := .int .i64 (b.jam)) na3 rfl f12 rfl) rfl rfl rfl (rfl) rfl rfl ?_
              refine W.rdg (Any.rd (.gtr rfl rfl) _) rfl rfl rfl (rfl) rfl rfl ?_
              refine W.any (.pickF rfl rfl rfl) rfl rfl rfl ?_
              by_cases q11_22 : 1000 < b.jam
              · refine W.any (.dec (.move rfl) (decide_eq_true q11_22)) rfl rfl rfl ?_
                refine W.skip rfl rfl rfl (rfl) rfl rfl ?_
                refine W.skip rfl rfl rfl (rfl) rfl rfl ?_
                refine W.skip rfl rfl rfl (rfl) rfl rfl ?_
                refine W.any (.pickT rfl rfl rfl) rfl rfl rfl ?_
                refine W.any (.move rfl) rfl rfl rfl ?_
                refine W.skip rfl rfl rfl (rfl) rfl rfl ?_
                refine W.skip rfl rfl rfl (rfl) rfl rfl ?_
                refine W.skip rfl rfl rfl (rfl) rfl rfl ?_
                refine W.any (.pickT rfl rfl rfl) rfl rfl rfl ?_
                refine W.any (.move rfl) rfl rfl rfl ?_
                refine W.skip rfl rfl rfl (rfl) rfl rfl ?_
                refine W.skip rfl rfl rfl (rfl) rfl rfl ?_
                refine W.skip rfl rfl rfl (rfl) rfl rfl ?_
                refine W.skip rfl rfl rfl (rfl) rfl rfl ?_
                refine W.skip rfl rfl rfl (rfl) rfl rfl ?_
                refine W.skip rfl rfl rfl (rfl) rfl rfl ?_
                refine W.any (.pickT rfl rfl rfl) rfl rfl rfl ?_
                refine W.nil ?_
                refine E.thenN ?_
                refine WC.condT rfl ?_
                refine WC.seq ?_
                refine WC.region ?_
                refine W.any (.move rfl) rfl rfl rfl ?_
                refine W.any (.assign rfl) rfl rfl rfl ?_
                refine W.nil ?_
                refine E.thenN ?_
                refine WC.ret ?_
                refine E.thenR ?_
                refine E.retG1 rfl rfl ?_
                exact ⟨rfl, L11⟩
              · refine W.any (.dec (.move rfl) (decide_eq_false q11_22)) rfl rfl rfl ?_
                refine W.rdg (Any.rd (.field0 fa100_1 rfl) _) rfl rfl rfl (rfl) rfl rfl ?_
                refine W.rdg (.loadB (v := .int .i64 (b.bar)) na3 rfl f12 rfl) rfl rfl rfl (rfl) rfl rfl ?_
                refine W.rdg (Any.rd (.gtr rfl rfl) _) rfl rfl rfl (rfl) rfl rfl ?_
                refine W.any (.pickF rfl rfl rfl) rfl rfl rfl ?_
                by_cases q11_27 : 1000 < b.bar
                · refine W.any (.dec (.move rfl) (decide_eq_true q11_27)) rfl rfl rfl ?_
                  refine W.skip rfl rfl rfl (rfl) rfl rfl ?_
                  refine W.skip rfl rfl rfl (rfl) rfl rfl ?_
                  refine W.skip rfl rfl rfl (rfl) rfl rfl ?_
                  refine W.any (.pickT rfl rfl rfl) rfl rfl rfl ?_
                  refine W.any (.move rfl) rfl rfl rfl ?_
                  refine W.skip rfl rfl rfl (rfl) rfl rfl ?_
                  refine W.skip rfl rfl rfl (rfl) rfl rfl ?_
                  refine W.skip rfl rfl rfl (rfl) rfl rfl ?_
                  refine W.skip rfl rfl rfl (rfl) rfl rfl ?_
                  refine W.skip rfl rfl rfl (rfl) rfl rfl ?_
                  refine W.skip rfl rfl rfl (rfl) rfl rfl ?_
                  refine W.any (.pickT rfl rfl rfl) rfl rfl rfl ?_
                  refine W.nil ?_
                  refine E.thenN ?_
                  refine WC.condT rfl ?_
                  refine WC.seq ?_
                  refine WC.region ?_
                  refine W.any (.move rfl) rfl rfl rfl ?_
                  refine W.any (.assign rfl) rfl rfl rfl ?_
                  refine W.nil ?_
                  refine E.thenN ?_
                  refine WC.ret ?_
                  refine E.thenR ?_
                  refine E.retG1 rfl rfl ?_
                  exact ⟨rfl, L11⟩
                · refine W.any (.dec (.move rfl) (decide_eq_false q11_27)) rfl rfl rfl ?_
                  refine W.rdg (Any.rd (.field0 fa100_2 rfl) _) rfl rfl rfl (rfl) rfl rfl ?_
                  refine W.rdg (.loadB (v := .int .i64 (b.nap)) na3 rfl f12 rfl) rfl rfl rfl (rfl) rfl rfl ?_
                  refine W.rdg (Any.rd (.gtr rfl rfl) _) rfl rfl rfl (rfl) rfl rfl ?_
                  refine W.any (.pickF rfl rfl rfl) rfl rfl rfl ?_
                  by_cases q11_32 : 1000 < b.nap
                  · refine W.any (.dec (.move rfl) (decide_eq_true q11_32)) rfl rfl rfl ?_
                    refine W.skip rfl rfl rfl (rfl) rfl rfl ?_
                    refine W.skip rfl rfl rfl (rfl) rfl rfl ?_
                    refine W.skip rfl rfl rfl (rfl) rfl rfl ?_
                    refine W.skip rfl rfl rfl (rfl) rfl rfl ?_
                    refine W.skip rfl rfl rfl (rfl) rfl rfl ?_
                    refine W.skip rfl rfl rfl (rfl) rfl rfl ?_
                    refine W.any (.pickT rfl rfl rfl) rfl rfl rfl ?_
                    refine W.nil ?_
                    refine E.thenN ?_
                    refine WC.condT rfl ?_
                    refine WC.seq ?_
                    refine WC.region ?_
                    refine W.any (.move rfl) rfl rfl rfl ?_
                    refine W.any (.assign rfl) rfl rfl rfl ?_
                    refine W.nil ?_
                    refine E.thenN ?_
                    refine WC.ret ?_
                    refine E.thenR ?_
                    refine E.retG1 rfl rfl ?_
                    exact ⟨rfl, L11⟩
                  · refine W.any (.dec (.move rfl) (decide_eq_false q11_32)) rfl rfl rfl ?_
                    refine W.rdg (Any.rd (.move rfl) _) rfl rfl rfl (rfl) rfl rfl ?_
                    refine W.rdg (Any.rd (.field0 fa100_2 rfl) _) rfl rfl rfl (rfl) rfl rfl ?_
                    refine W.rdg (.loadB (v := .int .i64 (b.nap)) na3 rfl f12 rfl) rfl rfl rfl (rfl) rfl rfl ?_
                    refine W.rdg (Any.rd (.sub rfl rfl (by omega)) _) rfl rfl rfl (rfl) rfl rfl ?_
                    refine W.rdg (Any.rd (.move rfl) _) rfl rfl rfl (rfl) rfl rfl ?_
                    refine W.rdg (Any.rd (.leq rfl rfl) _) rfl rfl rfl (rfl) rfl rfl ?_
                    refine W.any (.pickF rfl rfl rfl) rfl rfl rfl ?_
                    refine W.nil ?_
                    refine E.thenN ?_
                    by_cases c3 : (x - b.nap) ≤ ht
                    · refine WC.condY rfl (decide_eq_true c3) ?_
                      refine WC.seq ?_
                      refine WC.region ?_
                      refine W.any (.move rfl) rfl rfl rfl ?_
                      refine W.any (.assign rfl) rfl rfl rfl ?_
                      refine W.nil ?_
                      refine E.thenN ?_
                      refine WC.ret ?_
                      refine E.thenR ?_
                      refine E.retG1 rfl rfl ?_
                      exact ⟨rfl, L11⟩
                    · refine WC.condN rfl (decide_eq_false c3) ?_
                      have hwd : worldB ht b = true := by simp only [worldB, inB, Bool.and_eq_true, decide_eq_true_eq]; omega
                      have hxn : ht < x - b.nap := by omega
                      refine WC.skip ?_
                      refine E.thenN ?_
                      refine WC.seq ?_
                      refine WC.draw [0, 1, 2, 3, 4, 5, 6, 7, 8, 9, 10, 11, 12] mixed (by kernel_rfl) ?_
                      intro w13 d13
                      have L13 := L11.trans d13
                      refine G.any rfl rfl (.move rfl) rfl rfl rfl ?_
                      refine G.any rfl rfl (.idxS (0) Try.underlying53 sz3 rfl rfl (oa6_3.vec.isSome iv_row (by omega)) (rfl) (by omega)) rfl rfl rfl ?_
                      have f14 := (oa6_3.le d13)
                      refine G.rd rfl rfl (.vone (v := .int .i64 ((C.1.getD 0 0))) na3 rfl f14.vec iv_row (getS C.1 0 (by first | omega | (simp only [List.length_cons, List.length_nil]; omega))) rfl) rfl rfl rfl ?_
                      refine G.any rfl rfl (.move rfl) rfl rfl rfl ?_
                      refine G.any rfl rfl (.idxS (0) Try.underlying53 sz3 rfl rfl (ob6_3.vec.isSome iv_row (by omega)) (rfl) (by omega)) rfl rfl rfl ?_
                      have f15 := (ob6_3.le d13)
                      refine G.rd rfl rfl (.vone (v := .int .i64 ((C.2.1.getD 0 0))) na3 rfl f15.vec iv_row (getS C.2.1 0 (by first | omega | (simp only [List.length_cons, List.length_nil]; omega))) rfl) rfl rfl rfl ?_
                      refine G.any rfl rfl (.field0 fa63_0 rfl) rfl rfl rfl ?_
                      have f16 := (b4_9.le (h5_4.trans (h6_3.trans d13)))
                      refine G.rd rfl rfl (.loadB (v := .slice (some ⟨gp, 0, none⟩) n n) na60 rfl f16 rfl) rfl rfl rfl ?_
                      refine G.any rfl rfl (.idxS (0) Try.underlying60 sz31 rfl rfl (op.vec.isSome pv1_row (by omega)) (rfl) (by omega)) rfl rfl rfl ?_
                      have f17 := (f8.le (h5_4.trans (h6_3.trans d13)))
                      refine G.rd rfl rfl (.vone (v := .int .u64 ((((pts.getD 0 0) : Nat) : Int))) na31 rfl f17.vec pv1_row (getS pts 0 (by first | omega | (simp only [List.length_cons, List.length_nil]; omega))) rfl) rfl rfl rfl ?_
                      refine G.any rfl rfl (.buildP (condV (cAt C pts 0)) pl102 z102 rfl rfl) rfl rfl rfl ?_
                      refine G.ef rfl rfl rfl rfl rfl ?_
                      refine Ef.allocA z102 ?_
                      intro g13_11 w13_11 hg13_11 b13_11 h13_11
                      refine ⟨fun _ => h13_11, ?_⟩
                      have L18 := L13.trans h13_11
                      have b13_11 : Blk w13_11 g13_11 102 (condV noCnd).toArray := b13_11
                      refine G.ef0 rfl rfl rfl rfl ?_
                      refine Ef.storeAll sz102 (by rfl) rfl rfl b13_11 (by rfl) (condV_row.one (cAt C pts 0)) ?_
                      intro w13_12 b13_12 h13_12
                      refine ⟨fun h => absurd h (ne_true_of_eq_false (by kernel_rfl)), ?_⟩
                      have b13_12 : Blk w13_12 g13_11 102 (condV (cAt C pts 0)).toArray := b13_12
                      have L19 : Le w w13_12 := L18.then_ h13_12 (fun q hq => by cases hq; exact Nat.le_trans L13.size hg13_11)
                      refine G.nil ?_
                      refine E.thenN ?_
                      refine WC.seq ?_
                      refine WC.seq ?_
                      refine WC.region ?_
                      refine W.any (.assign rfl) rfl rfl rfl ?_
                      refine W.nil ?_
                      refine E.thenN ?_
                      refine WC.block ?_
                      have f20 := ((f12.le (d13.trans h13_11)).ch h13_12 (fun h => (show g13_11 ≠ g0_1 from by have := f12.lt; have := d13.size; omega) (Option.some.inj h)))
                      have f21 := ((f16.le h13_11).ch h13_12 (fun h => (show g13_11 ≠ g4_8 from by have := f16.lt; omega) (Option.some.inj h)))
                      have f22 := ((f17.le h13_11).ch h13_12 (fun q hq => by cases hq; exact (fun he => by have := (f17.row he).2; omega)))
                      have f23 := ((f9.le (h5_4.trans (h6_3.trans (d13.trans h13_11)))).ch h13_12 (fun q hq => by cases hq; exact (fun he => by have := (f9.row he).2; have := h5_4.size; have := h6_3.size; have := d13.size; omega)))
                      have f24 := ((oh5_4.le (h6_3.trans (d13.trans h13_11))).ch h13_12 (fun q hq => by cases hq; exact (fun he => by have := (oh5_4.row he).2; have := h6_3.size; have := d13.size; omega)))
                      refine WC.loop (ι := Nat) (fun k => [(0, .slice A n c), (1, .int .i64 (a)), (3, .int .u64 (((p : Nat) : Int))), (5, .int .i64 (ht)), (13, .pointer (some ⟨g0_1, 0, none⟩)), (15, .bool true), (16, .pointer (some ⟨g4_8, 0, none⟩)), (18, .slice Ah5_4 HG.1.length ch5_4), (23, .pointer (some ⟨g13_11, 0, none⟩)), (24, .int .i64 (((k : Nat) : Int)))]) (fun k wl0 => (k ≤ n) ∧ (∀ j, j < k → pts.getD j 0 ≠ 1) ∧ Le w wl0 ∧ w13_12.heap.size ≤ wl0.heap.size ∧ Blk wl0 g0_1 100 (bndV b).toArray ∧ Blk wl0 g4_8 63 #[.slice (some ⟨gp, 0, none⟩) n n, .slice Abl (n - 1) cbl] ∧ OVec wl0 w1_0.heap.size 31 pv1 1 (some ⟨gp, 0, none⟩) n n pts ∧ OVec wl0 w1_0.heap.size 30 pv1 1 Abl (n - 1) cbl bl ∧ OVec wl0 w4_9.heap.size 95 hopV 6 Ah5_4 HG.1.length ch5_4 HG.1 ∧ Blk wl0 g13_11 102 (condV (cAt C pts 0)).toArray) (fun k => n - k) 0 ?_ ?_ ?_
                      · exact .cons rfl (.cons rfl (.cons rfl (.cons rfl (.cons rfl (.cons rfl (.cons rfl (.cons rfl (.cons rfl (.cons rfl (.nil _))))))))))
                      · exact ⟨Nat.zero_le _, fun j hj => absurd hj (Nat.not_lt_zero _), L19, Nat.le_refl _, f20, f21, f22, f23, f24, b13_12⟩
                      · rintro k wl0 ⟨hk, hz, Ll0, sz0, f0_0, f0_1, f0_2, f0_3, f0_4, f0_5⟩
                        have lb0_4 : w1_0.heap.size ≤ wl0.heap.size := by have := h4_4.size; have := h4_8.size; have := h4_9.size; have := h5_4.size; have := h6_3.size; have := d13.size; have := h13_11.size; have := h13_12.size; omega
                        have lb0_5 : w1_0.heap.size ≤ wl0.heap.size := by have := h4_4.size; have := h4_8.size; have := h4_9.size; have := h5_4.size; have := h6_3.size; have := d13.size; have := h13_11.size; have := h13_12.size; omega
                        have lb0_7 : w4_9.heap.size ≤ wl0.heap.size := by have := h5_4.size; have := h6_3.size; have := d13.size; have := h13_11.size; have := h13_12.size; omega
                        refine WC.seq ?_
                        refine WC.seq ?_
                        refine WC.region ?_
                        refine W.any (.move rfl) rfl rfl rfl ?_
                        refine W.any (.field0 fa63_0 rfl) rfl rfl rfl ?_
                        refine W.rd (.loadB (v := .slice (some ⟨gp, 0, none⟩) n n) na60 rfl f0_1 rfl) rfl rfl rfl ?_
                        refine W.rd (.len Try.underlying60 rfl) rfl rfl rfl ?_
                        refine W.any (.lss rfl rfl) rfl rfl rfl ?_
                        refine W.nil ?_
                        refine E.thenN ?_
                        by_cases c4 : ((k : Nat) : Int) < ((n : Nat) : Int)
                        · refine WC.condY rfl (decide_eq_true c4) ?_
                          refine WC.skip ?_
                          refine E.thenN ?_
                          refine WC.seq ?_
                          refine WC.block ?_
                          refine WC.seq ?_
                          refine WC.region ?_
                          refine W.any (.field0 fa63_0 rfl) rfl rfl rfl ?_
                          refine W.rd (.loadB (v := .slice (some ⟨gp, 0, none⟩) n n) na60 rfl f0_1 rfl) rfl rfl rfl ?_
                          refine W.any (.move rfl) rfl rfl rfl ?_
                          refine W.any (.idxS (k) Try.underlying60 sz31 rfl rfl (op.vec.isSome pv1_row (by omega)) (rfl) (by omega)) rfl rfl rfl ?_
                          refine W.rd (.vone (v := .int .u64 ((((pts.getD k 0) : Nat) : Int))) na31 rfl f0_2.vec pv1_row (getS pts 0 (by first | omega | (simp only [List.length_cons, List.length_nil]; omega))) rfl) rfl rfl rfl ?_
                          refine W.any (.eql rfl rfl) rfl rfl rfl ?_
                          refine W.nil ?_
                          refine E.thenN ?_
                          by_cases c5 : (((pts.getD k 0) : Nat) : Int) = 1
                          · refine WC.condY rfl (decide_eq_true c5) ?_
                            refine WC.seq ?_
                            refine WC.region ?_
                            refine W.any (.move rfl) rfl rfl rfl ?_
                            refine W.any (.assign rfl) rfl rfl rfl ?_
                            refine W.nil ?_
                            refine E.thenN ?_
                            refine WC.ret ?_
                            refine E.blkR ?_
                            refine E.thenR ?_
                            refine E.thenR ?_
                            refine E.blkR ?_
                            refine E.thenR ?_
                            refine E.retG1 rfl rfl ?_
                            exact ⟨rfl, Ll0⟩
                          · refine WC.condN rfl (decide_eq_false c5) ?_
                            refine WC.skip ?_
                            refine E.blkN ?_
                            refine E.thenN ?_
                            refine WC.region ?_
                            refine W.any (.move rfl) rfl rfl rfl ?_
                            refine W.any (.add rfl rfl (by omega)) rfl rfl rfl ?_
                            refine W.any (.assign rfl) rfl rfl rfl ?_
                            refine W.nil ?_
                            refine E.again (k + 1) (.cons rfl (.cons rfl (.cons rfl (.cons rfl (.cons rfl (.cons rfl (.cons rfl (.cons rfl (.cons rfl (.cons rfl (.nil _))))))))))) ?_ ?_
                            · exact ⟨by omega, fun j hj => by rcases Nat.lt_or_ge j k with h | h; exact hz j h; rw [show j = k by omega]; omega, Ll0, by have := sz0; omega, f0_0, f0_1, f0_2, f0_3, f0_4, f0_5⟩
                            · first | omega | (simp only []; omega)
                        · refine WC.condN rfl (decide_eq_false c4) ?_
                          have hne : ∀ j, j < xs.length → pts.getD j 0 ≠ 1 := fun j hj => hz j (by omega)
                          refine WC.exit ?_
                          refine E.thenX ?_
                          refine E.thenX ?_
                          refine E.blkH ?_
                          refine E.thenN ?_
                          refine WC.seq ?_
                          refine WC.seq ?_
                          refine WC.region ?_
                          refine W.any (.assign rfl) rfl rfl rfl ?_
                          refine W.nil ?_
                          refine E.thenN ?_
                          refine WC.block ?_
                          refine WC.loop (ι := Nat) (fun i => [(0, .slice A n c), (1, .int .i64 (a)), (3, .int .u64 (((p : Nat) : Int))), (5, .int .i64 (ht)), (13, .pointer (some ⟨g0_1, 0, none⟩)), (15, .bool true), (18, .slice Ah5_4 HG.1.length ch5_4), (23, .pointer (some ⟨g13_11, 0, none⟩)), (25, .int .i64 (((i : Nat) : Int)))]) (fun i wl1 => (i ≤ n - 1) ∧ Le w wl1 ∧ wl0.heap.size ≤ wl1.heap.size ∧ Blk wl1 g0_1 100 (bndV b).toArray ∧ OVec wl1 w4_9.heap.size 95 hopV 6 Ah5_4 HG.1.length ch5_4 HG.1 ∧ Blk wl1 g13_11 102 (condV (cAt C pts i)).toArray) (fun i => n - 1 - i) 0 ?_ ?_ ?_
                          · exact .cons rfl (.cons rfl (.cons rfl (.cons rfl (.cons rfl (.cons rfl (.cons rfl (.cons rfl (.cons rfl (.nil _)))))))))
                          · exact ⟨by omega, Ll0, Nat.le_refl _, f0_0, f0_4, f0_5⟩
                          · rintro i wl1 ⟨hi, Ll1, sz1, f1_0, f1_1, f1_2⟩
                            have lb1_7 : w4_9.heap.size ≤ wl1.heap.size := Nat.le_trans lb0_7 (by omega)
                            refine WC.seq ?_
                            refine WC.seq ?_
                            refine WC.region ?_
                            refine W.any (.move rfl) rfl rfl rfl ?_
                            refine W.any (.move rfl) rfl rfl rfl ?_
                            refine W.rd (.len Try.underlying66 rfl) rfl rfl rfl ?_
                            refine W.any (.sub rfl rfl (by omega)) rfl rfl rfl ?_
                            refine W.any (.lss rfl rfl) rfl rfl rfl ?_
                            refine W.nil ?_
                            refine E.thenN ?_
                            by_cases c6 : ((i : Nat) : Int) < (((HG.1.length : Nat) : Int) - 1)
                            · refine WC.condY rfl (decide_eq_true c6) ?_
                              refine WC.skip ?_
                              refine E.thenN ?_
                              refine WC.seq ?_
                              refine WC.block ?_
                              refine WC.seq ?_
                              refine WC.drawT (fun o => (app o [0, 1, 2, 3, 4, 5, 6, 7, 8, 9, 10, 11, 12] (.br (app o [13, 14, 15, 16, 17, 18, 19] .nil) (app o [17, 13, 14, 15, 16, 18, 19] .nil)))) mixed (by kernel_rfl) ?_
                              intro w22 d22
                              have L25 := Ll1.trans d22
                              refine GT.app ?_
                              refine G.any rfl rfl (.move rfl) rfl rfl rfl ?_
                              refine G.any rfl rfl (.move rfl) rfl rfl rfl ?_
                              refine G.any rfl rfl (.idxS (i) Try.underlying66 sz95 rfl rfl (oh5_4.vec.isSome hopV_row (by omega)) (rfl) (by omega)) rfl rfl rfl ?_
                              have f26 := (f1_1.le d22)
                              refine G.rd rfl rfl (.vload ag95 rfl f26.vec hopV_row (getS HG.1 noHop (by first | omega | (simp only [List.length_cons, List.length_nil]; omega)))) rfl rfl rfl ?_
                              have f27 := (f1_2.le d22)
                              refine G.rd rfl rfl (.loadAll ag102 (by rfl) rfl f27) rfl rfl rfl ?_
                              refine G.any rfl rfl (.move rfl) rfl rfl rfl ?_
                              refine G.any rfl rfl (.move rfl) rfl rfl rfl ?_
                              refine G.any rfl rfl (.add rfl rfl (by omega)) rfl rfl rfl ?_
                              refine G.any rfl rfl (.idxS ((i + 1)) Try.underlying59 sz76 rfl rfl (hV.isSome edgeV_row (by omega)) (by omega) (by omega)) rfl rfl rfl ?_
                              refine G.any rfl rfl (.vfield fa76_4 (hV.isSome edgeV_row (by omega)) rfl) rfl rfl rfl ?_
                              refine G.rd rfl rfl (.vpart (j := (i + 1)) (o := 4) (polV ((xs.getD (i + 1) noEdge).pol)) ag74 rfl (by decide) rfl (hV.le L25) edgeV_row (getS xs noEdge (by first | omega | (simp only [List.length_cons, List.length_nil]; omega))) rfl) rfl rfl rfl ?_
                              refine G.any rfl rfl (.move rfl) rfl rfl rfl ?_
                              have f28 := (f1_0.le d22)
                              refine G.rd rfl rfl (.loadAll ag100 (by rfl) rfl f28) rfl rfl rfl ?_
                              refine G.nil ?_
                              refine GT.br ?_ ?_
                              · refine GT.last ?_
                                refine G.ef rfl rfl rfl rfl rfl ?_
                                refine Ef.call go53 rfl rfl ((by have k := hnext_ok (HG.1.getD i noHop) (cAt C pts i) (xs.getD (i + 1) noEdge).pol ht b (right_lt64 (hrt i (by omega))) (by rw [hat i, if_pos (by omega)]; exact right_lt64 (hrt (i + 1) (by omega))) (polI_ok (edgeOk_T (wayG_at hcs.way (i := i + 1) (by omega)).1).2.2.2.2.2) w22; rw [show HG.1.getD i noHop = hopAt xs C.1 C.2.1 pts bl i from by rw [hat i, if_pos (by omega)], passes hcs (by omega) hne hrt (hpat i (by omega)) hwd hxn] at k; rw [show HG.1.getD i noHop = hopAt xs C.1 C.2.1 pts bl i from by rw [hat i, if_pos (by omega)]]; exact k)) ?_
                                rintro _ w22_13 ⟨rfl, h22_13⟩
                                refine ⟨_, rfl, ?_⟩
                                refine ⟨fun _ => h22_13, ?_⟩
                                have L29 := L25.trans h22_13
                                refine G.any rfl rfl (.move rfl) rfl rfl rfl ?_
                                refine G.any rfl rfl (.extract (v := .agg (condV (cAt C pts (i + 1))).toArray) rfl rfl) rfl rfl rfl ?_
                                refine G.any rfl rfl (.extract (v := .int .i64 (0)) rfl rfl) rfl rfl rfl ?_
                                refine G.ef rfl rfl rfl rfl rfl ?_
                                refine Ef.allocA z102 ?_
                                intro g22_17 w22_17 hg22_17 b22_17 h22_17
                                refine ⟨fun _ => h22_17, ?_⟩
                                have L30 := L29.trans h22_17
                                have b22_17 : Blk w22_17 g22_17 102 (condV noCnd).toArray := b22_17
                                refine G.ef0 rfl rfl rfl rfl ?_
                                refine Ef.storeAll sz102 (by rfl) rfl rfl b22_17 (by rfl) (condV_row.one (cAt C pts (i + 1))) ?_
                                intro w22_18 b22_18 h22_18
                                refine ⟨fun h => absurd h (ne_true_of_eq_false (by kernel_rfl)), ?_⟩
                                have b22_18 : Blk w22_18 g22_17 102 (condV (cAt C pts (i + 1))).toArray := b22_18
                                have L31 : Le w w22_18 := L30.then_ h22_18 (fun q hq => by cases hq; exact Nat.le_trans L29.size hg22_17)
                                refine G.any rfl rfl (.assign rfl) rfl rfl rfl ?_
                                refine G.nil ?_
                                refine E.thenN ?_
                                refine WC.seq ?_
                                refine WC.seq ?_
                                refine WC.draw [0, 1, 2, 3, 4, 5, 6, 7, 8, 9, 10, 11, 12, 13, 14, 15, 16, 17, 18, 19, 20, 21, 22, 23, 24, 25, 26, 27, 28, 29] mixed (by kernel_rfl) ?_
                                intro w23 d23
                                have L32 := L31.trans d23
                                refine G.any rfl rfl (.move rfl) rfl rfl rfl ?_
                                refine G.any rfl rfl (.dec (.neq rfl rfl) (show _ = false from by decide)) rfl rfl rfl ?_
                                refine G.any rfl rfl (.dec (.move rfl) (rfl)) rfl rfl rfl ?_
                                refine G.anyg rfl rfl (.move rfl) rfl rfl rfl (rfl) rfl rfl ?_
                                refine G.anyg rfl rfl (.move rfl) rfl rfl rfl (rfl) rfl rfl ?_
                                refine G.anyg rfl rfl (.idxS (i) Try.underlying66 sz95 rfl rfl (oh5_4.vec.isSome hopV_row (by omega)) (rfl) (by omega)) rfl rfl rfl (rfl) rfl rfl ?_
                                refine G.anyg rfl rfl (.vfield fa95_0 (oh5_4.vec.isSome hopV_row (by omega)) rfl) rfl rfl rfl (rfl) rfl rfl ?_
                                have f33 := (((f26.le (h22_13.trans h22_17)).ch h22_18 (fun q hq => by cases hq; exact (fun he => by have := (f26.row he).2; have := h22_13.size; omega))).le d23)
                                refine G.rdg rfl rfl (.vcell (j := i) (o := 0) (v := .int .i64 ((HG.1.getD i noHop).1)) na3 rfl f33.vec hopV_row (getS HG.1 noHop (by first | omega | (simp only [List.length_cons, List.length_nil]; omega))) rfl) rfl rfl rfl (rfl) rfl rfl ?_
                                refine G.anyg rfl rfl (.move rfl) rfl rfl rfl (rfl) rfl rfl ?_
                                refine G.anyg rfl rfl (.move rfl) rfl rfl rfl (rfl) rfl rfl ?_
                                refine G.anyg rfl rfl (.add rfl rfl (by omega)) rfl rfl rfl (rfl) rfl rfl ?_
                                refine G.anyg rfl rfl (.idxS ((i + 1)) Try.underlying59 sz76 rfl rfl (hV.isSome edgeV_row (by omega)) (by omega) (by omega)) rfl rfl rfl (rfl) rfl rfl ?_
                                refine G.anyg rfl rfl (.vfield fa76_1 (hV.isSome edgeV_row (by omega)) rfl) rfl rfl rfl (rfl) rfl rfl ?_
                                refine G.rdg rfl rfl (.vcell (j := (i + 1)) (o := 1) (v := .int .i64 ((xs.getD (i + 1) noEdge).t)) na3 rfl (hV.le L32) edgeV_row (getS xs noEdge (by first | omega | (simp only [List.length_cons, List.length_nil]; omega))) rfl) rfl rfl rfl (rfl) rfl rfl ?_
                                refine G.anyg rfl rfl (.neq rfl rfl) rfl rfl rfl (rfl) rfl rfl ?_
                                refine G.any rfl rfl (.pickF rfl rfl rfl) rfl rfl rfl ?_
                                refine G.any rfl rfl (.dec (.move rfl) (decide_eq_false (fun h => h (by rw [hat i, if_pos (by omega)]; rfl)))) rfl rfl rfl ?_
                                refine G.anyg rfl rfl (.move rfl) rfl rfl rfl (rfl) rfl rfl ?_
                                refine G.anyg rfl rfl (.move rfl) rfl rfl rfl (rfl) rfl rfl ?_
                                refine G.anyg rfl rfl (.idxS (i) Try.underlying66 sz95 rfl rfl (oh5_4.vec.isSome hopV_row (by omega)) (rfl) (by omega)) rfl rfl rfl (rfl) rfl rfl ?_
                                refine G.anyg rfl rfl (.vfield fa95_1 (oh5_4.vec.isSome hopV_row (by omega)) rfl) rfl rfl rfl (rfl) rfl rfl ?_
                                refine G.rdg rfl rfl (.vcell (j := i) (o := 1) (v := .int .i64 ((HG.1.getD i noHop).2.1)) na3 rfl f33.vec hopV_row (getS HG.1 noHop (by first | omega | (simp only [List.length_cons, List.length_nil]; omega))) rfl) rfl rfl rfl (rfl) rfl rfl ?_
                                refine G.anyg rfl rfl (.move rfl) rfl rfl rfl (rfl) rfl rfl ?_
                                refine G.anyg rfl rfl (.move rfl) rfl rfl rfl (rfl) rfl rfl ?_
                                refine G.anyg rfl rfl (.add rfl rfl (by omega)) rfl rfl rfl (rfl) rfl rfl ?_
                                refine G.anyg rfl rfl (.idxS ((i + 1)) Try.underlying59 sz76 rfl rfl (hV.isSome edgeV_row (by omega)) (by omega) (by omega)) rfl rfl rfl (rfl) rfl rfl ?_
                                refine G.anyg rfl rfl (.vfield fa76_2 (hV.isSome edgeV_row (by omega)) rfl) rfl rfl rfl (rfl) rfl rfl ?_
                                refine G.rdg rfl rfl (.vcell (j := (i + 1)) (o := 2) (v := .int .i64 ((xs.getD (i + 1) noEdge).c)) na3 rfl (hV.le L32) edgeV_row (getS xs noEdge (by first | omega | (simp only [List.length_cons, List.length_nil]; omega))) rfl) rfl rfl rfl (rfl) rfl rfl ?_
                                refine G.anyg rfl rfl (.neq rfl rfl) rfl rfl rfl (rfl) rfl rfl ?_
                                refine G.any rfl rfl (.pickF rfl rfl rfl) rfl rfl rfl ?_
                                refine G.nil ?_
                                refine E.thenN ?_
                                refine WC.condN rfl (decide_eq_false (fun h => h (by rw [hat i, if_pos (by omega)]; rfl))) ?_
                                refine WC.skip ?_
                                refine E.thenN ?_
                                refine WC.region ?_
                                have f34 := (b22_18.le d23)
                                refine W.rd (.loadAll ag102 (by rfl) rfl f34) rfl rfl rfl ?_
                                have f35 := (((f27.le (h22_13.trans h22_17)).ch h22_18 (fun h => (show g22_17 ≠ g13_11 from by have := f27.lt; have := h22_13.size; omega) (Option.some.inj h))).le d23)
                                refine W.ef0 rfl rfl ?_
                                refine Ef.storeAll sz102 (by rfl) rfl rfl f35 (by rfl) (condV_row.one (cAt C pts (i + 1))) ?_
                                intro w25_1 b25_1 h25_1
                                have b25_1 : Blk w25_1 g13_11 102 (condV (cAt C pts (i + 1))).toArray := b25_1
                                have L36 : Le w w25_1 := L32.then_ h25_1 (fun q hq => by cases hq; exact Nat.le_trans L13.size hg13_11)
                                refine W.nil ?_
                                refine E.blkN ?_
                                refine E.thenN ?_
                                refine WC.region ?_
                                refine W.any (.move rfl) rfl rfl rfl ?_
                                refine W.any (.add rfl rfl (by omega)) rfl rfl rfl ?_
                                refine W.any (.assign rfl) rfl rfl rfl ?_
                                refine W.nil ?_
                                have f37 := ((((f28.le (h22_13.trans h22_17)).ch h22_18 (fun h => (show g22_17 ≠ g0_1 from by have := f28.lt; have := h22_13.size; omega) (Option.some.inj h))).le d23).ch h25_1 (fun h => (show g13_11 ≠ g0_1 from by have := f12.lt; have := d13.size; omega) (Option.some.inj h)))
                                have f38 := (f33.ch h25_1 (fun q hq => by cases hq; exact (fun he => by have := (oh5_4.row he).2; have := h6_3.size; have := d13.size; omega)))
                                refine E.again (i + 1) (.cons rfl (.cons rfl (.cons rfl (.cons rfl (.cons rfl (.cons rfl (.cons rfl (.cons rfl (.cons rfl (.nil _)))))))))) ?_ ?_
                                · exact ⟨by omega, L36, by have := sz1; have := d22.size; have := h22_13.size; have := h22_17.size; have := h22_18.size; have := d23.size; have := h25_1.size; omega, f37, f38, b25_1⟩
                                · first | omega | (simp only []; omega)
                              · refine GT.last ?_
                                refine G.ef rfl rfl rfl rfl rfl ?_
                                refine Ef.allocA z102 ?_
                                intro g22_17_1 w22_17_1 hg22_17_1 b22_17_1 h22_17_1
                                refine ⟨fun _ => h22_17_1, ?_⟩
                                have L39 := L25.trans h22_17_1
                                have b22_17_1 : Blk w22_17_1 g22_17_1 102 (condV noCnd).toArray := b22_17_1
                                refine G.ef rfl rfl rfl rfl rfl ?_
                                refine Ef.call go53 rfl rfl ((by have k := hnext_ok (HG.1.getD i noHop) (cAt C pts i) (xs.getD (i + 1) noEdge).pol ht b (right_lt64 (hrt i (by omega))) (by rw [hat i, if_pos (by omega)]; exact right_lt64 (hrt (i + 1) (by omega))) (polI_ok (edgeOk_T (wayG_at hcs.way (i := i + 1) (by omega)).1).2.2.2.2.2) w22_17_1; rw [show HG.1.getD i noHop = hopAt xs C.1 C.2.1 pts bl i from by rw [hat i, if_pos (by omega)], passes hcs (by omega) hne hrt (hpat i (by omega)) hwd hxn] at k; rw [show HG.1.getD i noHop = hopAt xs C.1 C.2.1 pts bl i from by rw [hat i, if_pos (by omega)]]; exact k)) ?_
                                rintro _ w22_13_1 ⟨rfl, h22_13_1⟩
                                refine ⟨_, rfl, ?_⟩
                                refine ⟨fun _ => h22_13_1, ?_⟩
                                have L40 := L39.trans h22_13_1
                                refine G.any rfl rfl (.move rfl) rfl rfl rfl ?_
                                refine G.any rfl rfl (.extract (v := .agg (condV (cAt C pts (i + 1))).toArray) rfl rfl) rfl rfl rfl ?_
                                refine G.any rfl rfl (.extract (v := .int .i64 (0)) rfl rfl) rfl rfl rfl ?_
                                have f41 := (b22_17_1.le h22_13_1)
                                refine G.ef0 rfl rfl rfl rfl ?_
                                refine Ef.storeAll sz102 (by rfl) rfl rfl f41 (by rfl) (condV_row.one (cAt C pts (i + 1))) ?_
                                intro w22_18_1 b22_18_1 h22_18_1
                                refine ⟨fun h => absurd h (ne_true_of_eq_false (by kernel_rfl)), ?_⟩
                                have b22_18_1 : Blk w22_18_1 g22_17_1 102 (condV (cAt C pts (i + 1))).toArray := b22_18_1
                                have L42 : Le w w22_18_1 := L40.then_ h22_18_1 (fun q hq => by cases hq; exact Nat.le_trans L25.size hg22_17_1)
                                refine G.any rfl rfl (.assign rfl) rfl rfl rfl ?_
                                refine G.nil ?_
                                refine E.thenN ?_
                                refine WC.seq ?_
                                refine WC.seq ?_
                                refine WC.draw [0, 1, 2, 3, 4, 5, 6, 7, 8, 9, 10, 11, 12, 13, 14, 15, 16, 17, 18, 19, 20, 21, 22, 23, 24, 25, 26, 27, 28, 29] mixed (by kernel_rfl) ?_
                                intro w23 d23
                                have L43 := L42.trans d23
                                refine G.any rfl rfl (.move rfl) rfl rfl rfl ?_
                                refine G.any rfl rfl (.dec (.neq rfl rfl) (show _ = false from by decide)) rfl rfl rfl ?_
                                refine G.any rfl rfl (.dec (.move rfl) (rfl)) rfl rfl rfl ?_
                                refine G.anyg rfl rfl (.move rfl) rfl rfl rfl (rfl) rfl rfl ?_
                                refine G.anyg rfl rfl (.move rfl) rfl rfl rfl (rfl) rfl rfl ?_
                                refine G.anyg rfl rfl (.idxS (i) Try.underlying66 sz95 rfl rfl (oh5_4.vec.isSome hopV_row (by omega)) (rfl) (by omega)) rfl rfl rfl (rfl) rfl rfl ?_
                                refine G.anyg rfl rfl (.vfield fa95_0 (oh5_4.vec.isSome hopV_row (by omega)) rfl) rfl rfl rfl (rfl) rfl rfl ?_
                                have f44 := (((f26.le (h22_17_1.trans h22_13_1)).ch h22_18_1 (fun q hq => by cases hq; exact (fun he => by have := (f26.row he).2; omega))).le d23)
                                refine G.rdg rfl rfl (.vcell (j := i) (o := 0) (v := .int .i64 ((HG.1.getD i noHop).1)) na3 rfl f44.vec hopV_row (getS HG.1 noHop (by first | omega | (simp only [List.length_cons, List.length_nil]; omega))) rfl) rfl rfl rfl (rfl) rfl rfl ?_
                                refine G.anyg rfl rfl (.move rfl) rfl rfl rfl (rfl) rfl rfl ?_
                                refine G.anyg rfl rfl (.move rfl) rfl rfl rfl (rfl) rfl rfl ?_
                                refine G.anyg rfl rfl (.add rfl rfl (by omega)) rfl rfl rfl (rfl) rfl rfl ?_
                                refine G.anyg rfl rfl (.idxS ((i + 1)) Try.underlying59 sz76 rfl rfl (hV.isSome edgeV_row (by omega)) (by omega) (by omega)) rfl rfl rfl (rfl) rfl rfl ?_
                                refine G.anyg rfl rfl (.vfield fa76_1 (hV.isSome edgeV_row (by omega)) rfl) rfl rfl rfl (rfl) rfl rfl ?_
                                refine G.rdg rfl rfl (.vcell (j := (i + 1)) (o := 1) (v := .int .i64 ((xs.getD (i + 1) noEdge).t)) na3 rfl (hV.le L43) edgeV_row (getS xs noEdge (by first | omega | (simp only [List.length_cons, List.length_nil]; omega))) rfl) rfl rfl rfl (rfl) rfl rfl ?_
                                refine G.anyg rfl rfl (.neq rfl rfl) rfl rfl rfl (rfl) rfl rfl ?_
                                refine G.any rfl rfl (.pickF rfl rfl rfl) rfl rfl rfl ?_
                                refine G.any rfl rfl (.dec (.move rfl) (decide_eq_false (fun h => h (by rw [hat i, if_pos (by omega)]; rfl)))) rfl rfl rfl ?_
                                refine G.anyg rfl rfl (.move rfl) rfl rfl rfl (rfl) rfl rfl ?_
                                refine G.anyg rfl rfl (.move rfl) rfl rfl rfl (rfl) rfl rfl ?_
                                refine G.anyg rfl rfl (.idxS (i) Try.underlying66 sz95 rfl rfl (oh5_4.vec.isSome hopV_row (by omega)) (rfl) (by omega)) rfl rfl rfl (rfl) rfl rfl ?_
                                refine G.anyg rfl rfl (.vfield fa95_1 (oh5_4.vec.isSome hopV_row (by omega)) rfl) rfl rfl rfl (rfl) rfl rfl ?_
                                refine G.rdg rfl rfl (.vcell (j := i) (o := 1) (v := .int .i64 ((HG.1.getD i noHop).2.1)) na3 rfl f44.vec hopV_row (getS HG.1 noHop (by first | omega | (simp only [List.length_cons, List.length_nil]; omega))) rfl) rfl rfl rfl (rfl) rfl rfl ?_
                                refine G.anyg rfl rfl (.move rfl) rfl rfl rfl (rfl) rfl rfl ?_
                                refine G.anyg rfl rfl (.move rfl) rfl rfl rfl (rfl) rfl rfl ?_
                                refine G.anyg rfl rfl (.add rfl rfl (by omega)) rfl rfl rfl (rfl) rfl rfl ?_
                                refine G.anyg rfl rfl (.idxS ((i + 1)) Try.underlying59 sz76 rfl rfl (hV.isSome edgeV_row (by omega)) (by omega) (by omega)) rfl rfl rfl (rfl) rfl rfl ?_
                                refine G.anyg rfl rfl (.vfield fa76_2 (hV.isSome edgeV_row (by omega)) rfl) rfl rfl rfl (rfl) rfl rfl ?_
                                refine G.rdg rfl rfl (.vcell (j := (i + 1)) (o := 2) (v := .int .i64 ((xs.getD (i + 1) noEdge).c)) na3 rfl (hV.le L43) edgeV_row (getS xs noEdge (by first | omega | (simp only [List.length_cons, List.length_nil]; omega))) rfl) rfl rfl rfl (rfl) rfl rfl ?_
                                refine G.anyg rfl rfl (.neq rfl rfl) rfl rfl rfl (rfl) rfl rfl ?_
                                refine G.any rfl rfl (.pickF rfl rfl rfl) rfl rfl rfl ?_
                                refine G.nil ?_
                                refine E.thenN ?_
                                refine WC.condN rfl (decide_eq_false (fun h => h (by rw [hat i, if_pos (by omega)]; rfl))) ?_
                                refine WC.skip ?_
                                refine E.thenN ?_
                                refine WC.region ?_
                                have f45 := (b22_18_1.le d23)
                                refine W.rd (.loadAll ag102 (by rfl) rfl f45) rfl rfl rfl ?_
                                have f46 := (((f27.le (h22_17_1.trans h22_13_1)).ch h22_18_1 (fun h => (show g22_17_1 ≠ g13_11 from by have := f27.lt; omega) (Option.some.inj h))).le d23)
                                refine W.ef0 rfl rfl ?_
                                refine Ef.storeAll sz102 (by rfl) rfl rfl f46 (by rfl) (condV_row.one (cAt C pts (i + 1))) ?_
                                intro w25_1_1 b25_1_1 h25_1_1
                                have b25_1_1 : Blk w25_1_1 g13_11 102 (condV (cAt C pts (i + 1))).toArray := b25_1_1
                                have L47 : Le w w25_1_1 := L43.then_ h25_1_1 (fun q hq => by cases hq; exact Nat.le_trans L13.size hg13_11)
                                refine W.nil ?_
                                refine E.blkN ?_
                                refine E.thenN ?_
                                refine WC.region ?_
                                refine W.any (.move rfl) rfl rfl rfl ?_
                                refine W.any (.add rfl rfl (by omega)) rfl rfl rfl ?_
                                refine W.any (.assign rfl) rfl rfl rfl ?_
                                refine W.nil ?_
                                have f48 := ((((f28.le (h22_17_1.trans h22_13_1)).ch h22_18_1 (fun h => (show g22_17_1 ≠ g0_1 from by have := f28.lt; omega) (Option.some.inj h))).le d23).ch h25_1_1 (fun h => (show g13_11 ≠ g0_1 from by have := f12.lt; have := d13.size; omega) (Option.some.inj h)))
                                have f49 := (f44.ch h25_1_1 (fun q hq => by cases hq; exact (fun he => by have := (oh5_4.row he).2; have := h6_3.size; have := d13.size; omega)))
                                refine E.again (i + 1) (.cons rfl (.cons rfl (.cons rfl (.cons rfl (.cons rfl (.cons rfl (.cons rfl (.cons rfl (.cons rfl (.nil _)))))))))) ?_ ?_
                                · exact ⟨by omega, L47, by have := sz1; have := d22.size; have := h22_17_1.size; have := h22_13_1.size; have := h22_18_1.size; have := d23.size; have := h25_1_1.size; omega, f48, f49, b25_1_1⟩
                                · first | omega | (simp only []; omega)
                            · refine WC.condN rfl (decide_eq_false c6) ?_
                              refine WC.exit ?_
                              refine E.thenX ?_
                              refine E.thenX ?_
                              refine E.blkH ?_
                              refine E.thenN ?_
                              refine WC.seq ?_
                              refine WC.draw [0, 1, 2, 3, 4, 5, 6, 7, 8, 9, 10, 11, 12, 13, 14, 15, 16, 17, 18, 19, 20, 21, 22, 23, 24, 25, 26] mixed (by kernel_rfl) ?_
                              intro w26 d26
                              have L50 := Ll1.trans d26
                              refine G.any rfl rfl (.move rfl) rfl rfl rfl ?_
                              refine G.any rfl rfl (.move rfl) rfl rfl rfl ?_
                              refine G.anyg rfl rfl (.move rfl) rfl rfl rfl (rfl) rfl rfl ?_
                              refine G.anyg rfl rfl (.move rfl) rfl rfl rfl (rfl) rfl rfl ?_
                              refine G.rdg rfl rfl (.len Try.underlying66 rfl) rfl rfl rfl (rfl) rfl rfl ?_
                              refine G.anyg rfl rfl (.sub rfl rfl (by omega)) rfl rfl rfl (rfl) rfl rfl ?_
                              refine G.anyg rfl rfl (.idxS ((HG.1.length - 1)) Try.underlying66 sz95 rfl rfl (oh5_4.vec.isSome hopV_row (by omega)) (by omega) (by omega)) rfl rfl rfl (rfl) rfl rfl ?_
                              have f51 := (f1_1.le d26)
                              refine G.rdg rfl rfl (.vload ag95 rfl f51.vec hopV_row (getS HG.1 noHop (by first | omega | (simp only [List.length_cons, List.length_nil]; omega)))) rfl rfl rfl (rfl) rfl rfl ?_
                              have f52 := (f1_2.le d26)
                              refine G.rdg rfl rfl (.loadAll ag102 (by rfl) rfl f52) rfl rfl rfl (rfl) rfl rfl ?_
                              refine G.anyg rfl rfl (.move rfl) rfl rfl rfl (rfl) rfl rfl ?_
                              have f53 := (f1_0.le d26)
                              refine G.rdg rfl rfl (.loadAll ag100 (by rfl) rfl f53) rfl rfl rfl (rfl) rfl rfl ?_
                              refine G.efg rfl rfl rfl rfl rfl (rfl) rfl rfl ?_
                              refine Ef.call go54 rfl rfl ((by have hlh : HG.1.getD (HG.1.length - 1) noHop = (-1, 0, a, x, pts.getD (xs.length - 1) 0, 0) := (by rw [hat, if_neg (by omega), if_pos (by omega)]); have k := hlast_ok (-1, 0, a, x, pts.getD (xs.length - 1) 0, 0) (cAt C pts (xs.length - 1)) ht b (right_lt64 (hrt _ (by omega))) (right_lt64 (hrt _ (by omega))) w26; rw [ends hcs hne hrt hwd hxn] at k; rw [hlh, show i = xs.length - 1 by omega]; exact k)) ?_
                              rintro _ w26_11 ⟨rfl, h26_11⟩
                              refine ⟨_, rfl, ?_⟩
                              refine ⟨fun _ => h26_11, ?_⟩
                              have L54 := L50.trans h26_11
                              refine G.anyg rfl rfl (.dec (.eql rfl rfl) (show _ = true from by decide)) rfl rfl rfl (rfl) rfl rfl ?_
                              refine G.any rfl rfl (.pickT rfl rfl rfl) rfl rfl rfl ?_
                              refine G.any rfl rfl (.move rfl) rfl rfl rfl ?_
                              refine G.anyg rfl rfl (.field0 fa102_2 rfl) rfl rfl rfl (rfl) rfl rfl ?_
                              have f55 := (f52.le h26_11)
                              refine G.rdg rfl rfl (.loadB (v := .int .i64 ((cAt C pts i).am)) na3 rfl f55 rfl) rfl rfl rfl (rfl) rfl rfl ?_
                              refine G.anyg rfl rfl (.move rfl) rfl rfl rfl (rfl) rfl rfl ?_
                              refine G.anyg rfl rfl (.dec (.eql rfl rfl) (decide_eq_true (show C.1.getD i 0 = a by rw [show i = xs.length - 1 by omega]; exact hcs.endS))) rfl rfl rfl (rfl) rfl rfl ?_
                              refine G.any rfl rfl (.pickT rfl rfl rfl) rfl rfl rfl ?_
                              refine G.any rfl rfl (.move rfl) rfl rfl rfl ?_
                              refine G.anyg rfl rfl (.field0 fa102_3 rfl) rfl rfl rfl (rfl) rfl rfl ?_
                              refine G.rdg rfl rfl (.loadB (v := .int .u64 ((((cAt C pts i).pt : Nat) : Int))) na31 rfl f55 rfl) rfl rfl rfl (rfl) rfl rfl ?_
                              refine G.anyg rfl rfl (.move rfl) rfl rfl rfl (rfl) rfl rfl ?_
                              refine G.anyg rfl rfl (.eql rfl rfl) rfl rfl rfl (rfl) rfl rfl ?_
                              refine G.any rfl rfl (.pickT rfl rfl rfl) rfl rfl rfl ?_
                              refine G.any rfl rfl (.assign rfl) rfl rfl rfl ?_
                              refine G.nil ?_
                              refine E.thenN ?_
                              refine WC.ret ?_
                              refine E.retG1 rfl rfl ?_
                              exact ⟨congrArg (fun b => Ending.returned (Value.bool b)) (decide_eq_true (congrArg Nat.cast (show (cAt C pts i).pt = p by show pts.getD i 0 = p; rw [hpts, show i = bl.length by omega]; exact fromP_end p bl))), L54⟩

theorem GraphPasses_ok (a x : Int) (p : Nat) (hp : p < 18446744073709551616) (ht : Int) (b : Bnd) {seed : List Byte} (hse : seed.length = 32) {A : Option Addr} {n c : Nat} {xs : List Gsp.Edge} (w : World) (hV : Vec w edgeV 9 A n xs) (hnc : n ≤ c) (hn0 : n ≤ 9223372036854775807) : Calls Try.prog 11 #[.slice A n c, .int .i64 a, .int .i64 x, .int .u64 ((p : Nat) : Int), .agg (seed.map u8v).toArray, .int .i64 ht, .agg (bndV b).toArray] w fun r w' => r = .returned (.bool true) ∧ Le w w' := by
  by_cases hT : right p = true ∧ p ≠ 1 ∧ 1 ≤ n ∧ n ≤ 8
  · exact GraphPasses_T a x p hp ht b hse w hV hnc hn0 hT
  · exact GraphPasses_F a x p hp ht b hse w hV hnc hn0 hT
end Go.Proofs.Ytfgakofjkldcjaa
