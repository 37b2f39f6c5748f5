/- GraphAds: for every input the law answers true and leaves its arguments as they were. -/
import Derived.Test.YtgpdfkplkaojcaaGreatGraphAdsK
import Derived.OrdersHeld
import Derived.WalkKit
import Derived.Deep.AppendSrc
import Derived.Deep.MidRow
import Derived.Laws.OwnMore
import Derived.WalkSpells
import Derived.Lib.ConvBytes
import Derived.Lib.AppendZerosOnto
import Derived.Laws.StructEq
import Derived.Maps.RangeRun
import Derived.Laws.Pointers
import Derived.Test.YtgpdfkplkaojcaaGreatProg
import Derived.KernelRfl
import Derived.Lib.Mul64
namespace Go.Proofs.YtgpdfkplkaojcaaGreat
open Go Go.Sx Go.Hsp Go.Num Go.Osp Go.Gsp
set_option maxRecDepth 20000
set_option linter.unusedSimpArgs false
set_option linter.unusedVariables false
def sE1 : Gsp.Edge := ⟨1, 2, 5, 1000, ⟨7, 0, 70, 1, 900⟩⟩
def sE2 : Gsp.Edge := ⟨2, 4, 3, 1000, ⟨10, 0, 5, 1, 900⟩⟩
def sE3 : Gsp.Edge := ⟨2, 1, 5, 1000, ⟨0, 0, 0, 1, 900⟩⟩
theorem s_of : isort 0 ([sE1, sE2, sE3, noEdge].filter edgeOk).length ([sE1, sE2, sE3, noEdge].filter edgeOk) = [sE2, sE1, sE3] := by decide +kernel
theorem s_cost1 : costG [sE1, sE2] 100 50 = ([110, 100], [55, 50], 0) := by decide +kernel
theorem s_cost2 : costG [sE1, sE2] 891 50 = ([], [], 6) := by decide +kernel
theorem s_cost3 : costG [sE1, sE2] 100 1048572 = ([], [], 16) := by decide +kernel
theorem s_cost4 : costG [sE2, sE1] 100 50 = ([], [], 19) := by decide +kernel
theorem s_cost5 : costG [sE1, sE2] 0 50 = ([], [], 1) := by decide +kernel
theorem s_cost6 : (costG [sE1] 100 50).2.2 = 0 := by decide +kernel
theorem s_hops1 (p0 b0 : Nat) : hopsG [sE1, sE2] 100 50 [p0, 4] [b0] = ([(4, 3, 100, 50, 4, b0), (-1, 0, 100, 50, 4, 0)], 0) := by unfold hopsG; rw [s_cost1]; rfl
theorem s_hops2 (p0 b0 : Nat) : hopsG [sE1] 100 50 [p0, 4] [b0] = ([], 1) := by unfold hopsG; rw [if_neg (by rw [s_cost6]; simp), if_pos (by simp)]
theorem s_find1 : findE [sE2, sE1, sE3] 5 2 = (sE3, true) := by decide +kernel
theorem s_find2 : findE [sE2, sE1, sE3] 5 4 = (noEdge, false) := by decide +kernel
theorem s_right : rightG [sE2, sE1, sE3] = true := by decide +kernel
theorem s_way1 : wayG [sE1, sE2] = true := by decide +kernel
theorem s_way2 : wayG [sE1, sE3] = false := by decide +kernel
theorem s_way3 : wayG [] = false := by decide +kernel
theorem s_out : ([sE2, sE1, sE3].filter (fun e => decide (e.f = 2))) = [sE2, sE3] := by decide +kernel
theorem s_in : ([sE2, sE1, sE3].filter (fun e => decide (e.t = 2))) = [sE1] := by decide +kernel
theorem ledge_ok (f t c b d : Int) (w : World) : Calls Tryz.prog 15 #[.int .i64 (f), .int .i64 (t), .int .i64 (c), .int .i64 (b), .int .i64 (d)] w fun r w' => r = .returned (.agg (edgeV ⟨f, t, c, 1000, ⟨b, 0, d, 1, 900⟩⟩).toArray) ∧ Le w w' := by
  refine enter Tryz.func15 rfl rfl ?_
  have L0 := Le.refl w
  refine WC.seq ?_
  refine WC.region ?_
  refine W.ef rfl rfl rfl ?_
  refine Ef.allocA z36 ?_
  intro g0_0 w0_0 hg0_0 b0_0 h0_0
  have L1 := L0.trans h0_0
  have b0_0 : Blk w0_0 g0_0 36 (edgeV noEdge).toArray := b0_0
  refine W.nil ?_
  refine E.thenN ?_
  refine WC.seq ?_
  refine WC.region ?_
  refine W.any (.move rfl) rfl rfl rfl ?_
  refine W.any (.move rfl) rfl rfl rfl ?_
  refine W.any (.move rfl) rfl rfl rfl ?_
  refine W.any (.move rfl) rfl rfl rfl ?_
  refine W.any (.move rfl) rfl rfl rfl ?_
  refine W.any (.buildP (polV (⟨b, 0, d, 1, 900⟩)) pl34 z34 rfl rfl) rfl rfl rfl ?_
  refine W.any (.buildP (edgeV (⟨f, t, c, 1000, ⟨b, 0, d, 1, 900⟩⟩)) pl36 z36 rfl rfl) rfl rfl rfl ?_
  refine W.ef0 rfl rfl ?_
  refine Ef.storeAll sz36 (by rfl) rfl rfl b0_0 (by simp only [List.size_toArray, edgeV_row.len]) (edgeV_row.one (⟨f, t, c, 1000, ⟨b, 0, d, 1, 900⟩⟩)) ?_
  intro w1_7 b1_7 h1_7
  have b1_7 : Blk w1_7 g0_0 36 (edgeV (⟨f, t, c, 1000, ⟨b, 0, d, 1, 900⟩⟩)).toArray := b1_7
  have L2 : Le w w1_7 := L1.then_ h1_7 (fun q hq => by cases hq; exact Nat.le_trans L0.size hg0_0)
  refine W.nil ?_
  refine E.thenN ?_
  refine WC.ret ?_
  refine E.retG1 rfl (resA rfl b1_7 ag36 (by rfl)) ?_
  exact ⟨rfl, L2⟩

set_option maxHeartbeats 4000000 in
theorem small36_ok (w : World) : Calls Tryz.prog 4 #[] w fun r w' => r = .returned (.bool true) ∧ Le w w' := by
  refine enter Tryz.func4 rfl rfl ?_
  have L0 := Le.refl w
  refine WC.seq ?_
  refine WC.region ?_
  refine W.any (.assign rfl) rfl rfl rfl ?_
  refine W.nil ?_
  refine E.thenN ?_
  refine WC.seq ?_
  refine WC.region ?_
  refine W.ef rfl rfl rfl ?_
  refine Ef.call go15 rfl rfl (ledge_ok 1 2 5 7 70 w) ?_
  rintro _ w1_0 ⟨rfl, h1_0⟩
  refine ⟨_, rfl, ?_⟩
  have L1 := L0.trans h1_0
  refine W.ef rfl rfl rfl ?_
  refine Ef.call go15 rfl rfl (ledge_ok 2 4 3 10 5 w1_0) ?_
  rintro _ w1_1 ⟨rfl, h1_1⟩
  refine ⟨_, rfl, ?_⟩
  have L2 := L1.trans h1_1
  refine W.ef rfl rfl rfl ?_
  refine Ef.buildSliceV (len := 2) [_, _] Tryz.underlying44 el36 rfl (by simp [Value.cells, edgeV_row.len]) rfl (by decide) (by decide) ?_
  intro g1_2 w1_2 hg1_2 b1_2 h1_2
  have L3 := L2.trans h1_2
  have b1_2 : Blk w1_2 g1_2 36 (([sE1, sE2]).map edgeV).flatten.toArray := b1_2
  have o1_2 : OVec w1_2 w1_1.heap.size 36 edgeV 9 (some ⟨g1_2, 0, none⟩) 2 2 ([sE1, sE2]) := b1_2.ovec hg1_2 edgeV_row rfl rfl (by decide)
  refine W.any (.assign rfl) rfl rfl rfl ?_
  refine W.nil ?_
  refine E.thenN ?_
  refine WC.seq ?_
  refine WC.draw [0, 1, 2, 3, 4, 5, 7, 6, 8, 9, 10] mixed (by kernel_rfl) ?_
  intro w2 d2
  have L4 := L3.trans d2
  refine G.any rfl rfl (.move rfl) rfl rfl rfl ?_
  refine G.any rfl rfl (.idxS (0) Tryz.underlying44 sz36 rfl rfl (o1_2.vec.isSome edgeV_row (by omega)) (rfl) (by omega)) rfl rfl rfl ?_
  have f5 := (o1_2.le d2)
  refine G.rd rfl rfl (.vload ag36 rfl f5.vec edgeV_row (rfl)) rfl rfl rfl ?_
  refine G.any rfl rfl (.move rfl) rfl rfl rfl ?_
  refine G.any rfl rfl (.idxS (1) Tryz.underlying44 sz36 rfl rfl (o1_2.vec.isSome edgeV_row (by omega)) (rfl) (by omega)) rfl rfl rfl ?_
  refine G.rd rfl rfl (.vload ag36 rfl f5.vec edgeV_row (rfl)) rfl rfl rfl ?_
  refine G.any rfl rfl (.buildP (edgeV noEdge) pl36 z36 rfl rfl) rfl rfl rfl ?_
  refine G.ef rfl rfl rfl rfl rfl ?_
  refine Ef.call go15 rfl rfl (ledge_ok 2 1 5 0 0 w2) ?_
  rintro _ w2_6 ⟨rfl, h2_6⟩
  refine ⟨_, rfl, ?_⟩
  refine ⟨fun _ => h2_6, ?_⟩
  have L6 := L4.trans h2_6
  refine G.ef rfl rfl rfl rfl rfl ?_
  refine Ef.buildSliceV (len := 4) [_, _, _, _] Tryz.underlying44 el36 rfl (by simp [Value.cells, edgeV_row.len]) rfl (by decide) (by decide) ?_
  intro g2_8 w2_8 hg2_8 b2_8 h2_8
  refine ⟨fun _ => h2_8, ?_⟩
  have L7 := L6.trans h2_8
  have b2_8 : Blk w2_8 g2_8 36 (([sE1, sE2, sE3, noEdge]).map edgeV).flatten.toArray := b2_8
  have o2_8 : OVec w2_8 w2_6.heap.size 36 edgeV 9 (some ⟨g2_8, 0, none⟩) 4 4 ([sE1, sE2, sE3, noEdge]) := b2_8.ovec hg2_8 edgeV_row rfl rfl (by decide)
  refine G.ef rfl rfl rfl rfl rfl ?_
  refine Ef.call go12 rfl rfl ((by have k := of20_ok (c := 4) w2_8 o2_8.vec (by decide); rw [s_of] at k; (try simp only [List.length_cons, List.length_nil, Nat.zero_add, Nat.reduceAdd] at k); exact k)) ?_
  rintro _ w2_9 ⟨Ag2_9, cg2_9, rfl, og2_9, h2_9⟩
  refine ⟨_, rfl, ?_⟩
  refine ⟨fun _ => h2_9, ?_⟩
  have L8 := L7.trans h2_9
  have og2_9 := og2_9.cast (m' := 3) rfl rfl
  refine G.any rfl rfl (.assign rfl) rfl rfl rfl ?_
  refine G.nil ?_
  refine E.thenN ?_
  refine WC.seq ?_
  refine WC.region ?_
  refine W.any (.move rfl) rfl rfl rfl ?_
  have f9 := (f5.le (h2_6.trans (h2_8.trans h2_9)))
  refine W.ef rfl rfl rfl ?_
  refine Ef.call go16 rfl rfl ((by have k := cost_ok (c := 2) 100 50 w2_9 f9.vec (by decide); rw [s_cost1] at k; (try simp only [List.length_cons, List.length_nil, Nat.zero_add, Nat.reduceAdd] at k); exact k)) ?_
  rintro _ w3_1 ⟨Aa3_1, ca3_1, Ab3_1, cb3_1, rfl, oa3_1, ob3_1, h3_1⟩
  refine ⟨_, rfl, ?_⟩
  have L10 := L8.trans h3_1
  have oa3_1 := oa3_1.cast (m' := 2) rfl rfl
  have ob3_1 := ob3_1.cast (m' := 2) rfl rfl
  refine W.any (.move rfl) rfl rfl rfl ?_
  refine W.any (.extract (v := .slice Aa3_1 2 ca3_1) rfl rfl) rfl rfl rfl ?_
  refine W.any (.extract (v := .slice Ab3_1 2 cb3_1) rfl rfl) rfl rfl rfl ?_
  refine W.any (.extract (v := .int .i64 (0)) rfl rfl) rfl rfl rfl ?_
  refine W.any (.assign rfl) rfl rfl rfl ?_
  refine W.any (.assign rfl) rfl rfl rfl ?_
  refine W.any (.assign rfl) rfl rfl rfl ?_
  refine W.nil ?_
  refine E.thenN ?_
  refine WC.seq ?_
  refine WC.region ?_
  refine W.any (.move rfl) rfl rfl rfl ?_
  have f11 := (f9.le h3_1)
  refine W.ef rfl rfl rfl ?_
  refine Ef.call go16 rfl rfl ((by have k := cost_ok (c := 2) 891 50 w3_1 f11.vec (by decide); rw [s_cost2] at k; (try simp only [List.length_cons, List.length_nil, Nat.zero_add, Nat.reduceAdd] at k); exact k)) ?_
  rintro _ w4_1 ⟨Aa4_1, ca4_1, Ab4_1, cb4_1, rfl, oa4_1, ob4_1, h4_1⟩
  refine ⟨_, rfl, ?_⟩
  have L12 := L10.trans h4_1
  have oa4_1 := oa4_1.cast (m' := 0) rfl rfl
  have ob4_1 := ob4_1.cast (m' := 0) rfl rfl
  refine W.any (.move rfl) rfl rfl rfl ?_
  refine W.any (.extract (v := .slice Aa4_1 0 ca4_1) rfl rfl) rfl rfl rfl ?_
  refine W.any (.extract (v := .slice Ab4_1 0 cb4_1) rfl rfl) rfl rfl rfl ?_
  refine W.any (.extract (v := .int .i64 (6)) rfl rfl) rfl rfl rfl ?_
  refine W.any (.assign rfl) rfl rfl rfl ?_
  refine W.any (.assign rfl) rfl rfl rfl ?_
  refine W.any (.assign rfl) rfl rfl rfl ?_
  refine W.nil ?_
  refine E.thenN ?_
  refine WC.seq ?_
  refine WC.region ?_
  refine W.any (.move rfl) rfl rfl rfl ?_
  have f13 := (f11.le h4_1)
  refine W.ef rfl rfl rfl ?_
  refine Ef.call go16 rfl rfl ((by have k := cost_ok (c := 2) 100 1048572 w4_1 f13.vec (by decide); rw [s_cost3] at k; (try simp only [List.length_cons, List.length_nil, Nat.zero_add, Nat.reduceAdd] at k); exact k)) ?_
  rintro _ w5_1 ⟨Aa5_1, ca5_1, Ab5_1, cb5_1, rfl, oa5_1, ob5_1, h5_1⟩
  refine ⟨_, rfl, ?_⟩
  have L14 := L12.trans h5_1
  have oa5_1 := oa5_1.cast (m' := 0) rfl rfl
  have ob5_1 := ob5_1.cast (m' := 0) rfl rfl
  refine W.any (.move rfl) rfl rfl rfl ?_
  refine W.any (.extract (v := .slice Aa5_1 0 ca5_1) rfl rfl) rfl rfl rfl ?_
  refine W.any (.extract (v := .slice Ab5_1 0 cb5_1) rfl rfl) rfl rfl rfl ?_
  refine W.any (.extract (v := .int .i64 (16)) rfl rfl) rfl rfl rfl ?_
  refine W.any (.assign rfl) rfl rfl rfl ?_
  refine W.any (.assign rfl) rfl rfl rfl ?_
  refine W.any (.assign rfl) rfl rfl rfl ?_
  refine W.nil ?_
  refine E.thenN ?_
  refine WC.seq ?_
  refine WC.draw [0, 1, 2, 3, 4, 5, 6, 7, 8, 9, 10, 11, 12, 13, 14] mixed (by kernel_rfl) ?_
  intro w6 d6
  have L15 := L14.trans d6
  refine G.any rfl rfl (.move rfl) rfl rfl rfl ?_
  refine G.any rfl rfl (.idxS (1) Tryz.underlying44 sz36 rfl rfl (o1_2.vec.isSome edgeV_row (by omega)) (rfl) (by omega)) rfl rfl rfl ?_
  have f16 := (f13.le (h5_1.trans d6))
  refine G.rd rfl rfl (.vload ag36 rfl f16.vec edgeV_row (rfl)) rfl rfl rfl ?_
  refine G.any rfl rfl (.move rfl) rfl rfl rfl ?_
  refine G.any rfl rfl (.idxS (0) Tryz.underlying44 sz36 rfl rfl (o1_2.vec.isSome edgeV_row (by omega)) (rfl) (by omega)) rfl rfl rfl ?_
  refine G.rd rfl rfl (.vload ag36 rfl f16.vec edgeV_row (rfl)) rfl rfl rfl ?_
  refine G.ef rfl rfl rfl rfl rfl ?_
  refine Ef.buildSliceV (len := 2) [_, _] Tryz.underlying44 el36 rfl (by simp [Value.cells, edgeV_row.len]) rfl (by decide) (by decide) ?_
  intro g6_6 w6_6 hg6_6 b6_6 h6_6
  refine ⟨fun _ => h6_6, ?_⟩
  have L17 := L15.trans h6_6
  have b6_6 : Blk w6_6 g6_6 36 (([sE2, sE1]).map edgeV).flatten.toArray := b6_6
  have o6_6 : OVec w6_6 w6.heap.size 36 edgeV 9 (some ⟨g6_6, 0, none⟩) 2 2 ([sE2, sE1]) := b6_6.ovec hg6_6 edgeV_row rfl rfl (by decide)
  refine G.ef rfl rfl rfl rfl rfl ?_
  refine Ef.call go16 rfl rfl ((by have k := cost_ok (c := 2) 100 50 w6_6 o6_6.vec (by decide); rw [s_cost4] at k; (try simp only [List.length_cons, List.length_nil, Nat.zero_add, Nat.reduceAdd] at k); exact k)) ?_
  rintro _ w6_7 ⟨Aa6_7, ca6_7, Ab6_7, cb6_7, rfl, oa6_7, ob6_7, h6_7⟩
  refine ⟨_, rfl, ?_⟩
  refine ⟨fun _ => h6_7, ?_⟩
  have L18 := L17.trans h6_7
  have oa6_7 := oa6_7.cast (m' := 0) rfl rfl
  have ob6_7 := ob6_7.cast (m' := 0) rfl rfl
  refine G.any rfl rfl (.move rfl) rfl rfl rfl ?_
  refine G.any rfl rfl (.extract (v := .slice Aa6_7 0 ca6_7) rfl rfl) rfl rfl rfl ?_
  refine G.any rfl rfl (.extract (v := .slice Ab6_7 0 cb6_7) rfl rfl) rfl rfl rfl ?_
  refine G.any rfl rfl (.extract (v := .int .i64 (19)) rfl rfl) rfl rfl rfl ?_
  refine G.any rfl rfl (.assign rfl) rfl rfl rfl ?_
  refine G.any rfl rfl (.assign rfl) rfl rfl rfl ?_
  refine G.any rfl rfl (.assign rfl) rfl rfl rfl ?_
  refine G.nil ?_
  refine E.thenN ?_
  refine WC.seq ?_
  refine WC.region ?_
  refine W.any (.move rfl) rfl rfl rfl ?_
  have f19 := (f16.le (h6_6.trans h6_7))
  refine W.ef rfl rfl rfl ?_
  refine Ef.call go16 rfl rfl ((by have k := cost_ok (c := 2) 0 50 w6_7 f19.vec (by decide); rw [s_cost5] at k; (try simp only [List.length_cons, List.length_nil, Nat.zero_add, Nat.reduceAdd] at k); exact k)) ?_
  rintro _ w7_1 ⟨Aa7_1, ca7_1, Ab7_1, cb7_1, rfl, oa7_1, ob7_1, h7_1⟩
  refine ⟨_, rfl, ?_⟩
  have L20 := L18.trans h7_1
  have oa7_1 := oa7_1.cast (m' := 0) rfl rfl
  have ob7_1 := ob7_1.cast (m' := 0) rfl rfl
  refine W.any (.move rfl) rfl rfl rfl ?_
  refine W.any (.extract (v := .slice Aa7_1 0 ca7_1) rfl rfl) rfl rfl rfl ?_
  refine W.any (.extract (v := .slice Ab7_1 0 cb7_1) rfl rfl) rfl rfl rfl ?_
  refine W.any (.extract (v := .int .i64 (1)) rfl rfl) rfl rfl rfl ?_
  refine W.any (.assign rfl) rfl rfl rfl ?_
  refine W.any (.assign rfl) rfl rfl rfl ?_
  refine W.any (.assign rfl) rfl rfl rfl ?_
  refine W.nil ?_
  refine E.thenN ?_
  refine WC.seq ?_
  refine WC.region ?_
  refine W.ef rfl rfl rfl ?_
  refine Ef.call go18 rfl rfl (sum_ok (xs := []) w7_1 (Sl.nil _ _ _) (by decide) (by decide)) ?_
  rintro _ w8_0 ⟨rfl, h8_0⟩
  refine ⟨_, rfl, ?_⟩
  have L21 := L20.trans h8_0
  refine W.ef rfl rfl rfl ?_
  refine Ef.call go17 rfl rfl (pnew_ok 4 (by decide) right_four (by decide) (sum []) (sum_length _) 2 (by decide) (by decide) w8_0) ?_
  rintro _ w8_1 ⟨gp, Abl, cbl, rfl, hgp, bp, obl, h8_1⟩
  refine ⟨_, rfl, ?_⟩
  have L22 := L21.trans h8_1
  obtain ⟨b0, hb0⟩ : ∃ b0, blindsP (sum []) (2 - 1) = [b0] := ⟨_, rfl⟩
  rw [hb0] at bp obl
  obtain ⟨p0, hp0⟩ : ∃ p0, fromP 4 [b0] = [p0, 4] := ⟨_, rfl⟩
  rw [hp0] at bp
  have op : OVec w8_1 w8_0.heap.size 28 pv1 1 (some ⟨gp, 0, none⟩) 2 2 [p0, 4] := bp.ovec hgp pv1_row rfl rfl (by decide)
  have obl : OVec w8_1 w8_0.heap.size 30 pv1 1 Abl 1 cbl [b0] := ⟨rfl, obl⟩
  refine W.any (.move rfl) rfl rfl rfl ?_
  refine W.any (.extract (v := .agg #[.slice (some ⟨gp, 0, none⟩) 2 2, .slice Abl 1 cbl]) rfl rfl) rfl rfl rfl ?_
  refine W.any (.extract (v := .bool true) rfl rfl) rfl rfl rfl ?_
  refine W.ef rfl rfl rfl ?_
  refine Ef.allocA z57 ?_
  intro g8_5 w8_5 hg8_5 b8_5 h8_5
  have L23 := L22.trans h8_5
  have b8_5 : Blk w8_5 g8_5 57 #[.slice none 0 0, .slice none 0 0] := b8_5
  refine W.ef0 rfl rfl ?_
  refine Ef.storeAll sz57 (by rfl) rfl rfl b8_5 (by rfl) (one2s) ?_
  intro w8_6 b8_6 h8_6
  have b8_6 : Blk w8_6 g8_5 57 #[.slice (some ⟨gp, 0, none⟩) 2 2, .slice Abl 1 cbl] := b8_6
  have L24 : Le w w8_6 := L23.then_ h8_6 (fun q hq => by cases hq; exact Nat.le_trans L22.size hg8_5)
  refine W.any (.assign rfl) rfl rfl rfl ?_
  refine W.nil ?_
  refine E.thenN ?_
  refine WC.seq ?_
  refine WC.region ?_
  refine W.any (.move rfl) rfl rfl rfl ?_
  refine W.rd (.loadAll ag57 (by rfl) rfl b8_6) rfl rfl rfl ?_
  have f25 := ((f19.le (h7_1.trans (h8_0.trans (h8_1.trans h8_5)))).ch h8_6 (fun q hq => by cases hq; exact (fun he => by have := (f19.row he).2; have := h7_1.size; have := h8_0.size; have := h8_1.size; omega)))
  have f26 := ((op.le h8_5).ch h8_6 (fun q hq => by cases hq; exact (fun he => by have := (op.row he).2; omega)))
  have f27 := ((obl.le h8_5).ch h8_6 (fun q hq => by cases hq; exact (fun he => by have := (obl.row he).2; omega)))
  refine W.ef rfl rfl rfl ?_
  refine Ef.call go19 rfl rfl ((by have k := hops_ok (c := 2) (cp := 2) (cb := cbl) 100 50 w8_6 f25.vec (by decide) f26.vec (by decide) f27.vec (by decide) (by decide); rw [s_hops1] at k; (try simp only [List.length_cons, List.length_nil, Nat.zero_add, Nat.reduceAdd] at k); exact k)) ?_
  rintro _ w9_2 ⟨Ah9_2, ch9_2, rfl, oh9_2, h9_2⟩
  refine ⟨_, rfl, ?_⟩
  have L28 := L24.trans h9_2
  have oh9_2 := oh9_2.cast (m' := 2) rfl rfl
  refine W.any (.move rfl) rfl rfl rfl ?_
  refine W.any (.extract (v := .slice Ah9_2 2 ch9_2) rfl rfl) rfl rfl rfl ?_
  refine W.any (.extract (v := .int .i64 (0)) rfl rfl) rfl rfl rfl ?_
  refine W.any (.assign rfl) rfl rfl rfl ?_
  refine W.any (.assign rfl) rfl rfl rfl ?_
  refine W.nil ?_
  refine E.thenN ?_
  refine WC.seq ?_
  refine WC.draw [0, 1, 2, 3, 4, 5, 6, 7, 8] mixed (by kernel_rfl) ?_
  intro w10 d10
  have L29 := L28.trans d10
  refine G.any rfl rfl (.move rfl) rfl rfl rfl ?_
  have f30 := (f25.le (h9_2.trans d10))
  have cp31 := f30.cap
  have v32 := f30.vec.cutH 1 (by omega) edgeV_row
  have v32l := v32.1
  refine G.any rfl rfl (.cutH (1) Tryz.underlying44 sz36 rfl rfl (rfl) (by omega)) rfl rfl rfl ?_
  have f33 := (b8_6.le (h9_2.trans d10))
  refine G.rd rfl rfl (.loadAll ag57 (by rfl) rfl f33) rfl rfl rfl ?_
  have f34 := (f26.le (h9_2.trans d10))
  have f35 := (f27.le (h9_2.trans d10))
  refine G.ef rfl rfl rfl rfl rfl ?_
  refine Ef.call go19 rfl rfl ((by have k := hops_ok (c := 2) (cp := 2) (cb := cbl) 100 50 w10 v32 (by decide) f34.vec (by decide) f35.vec (by decide) (by decide); rw [show ([sE1, sE2].take 1) = [sE1] from rfl, s_hops2] at k; (try simp only [List.length_cons, List.length_nil, Nat.zero_add, Nat.reduceAdd] at k); exact k)) ?_
  rintro _ w10_3 ⟨Ah10_3, ch10_3, rfl, oh10_3, h10_3⟩
  refine ⟨_, rfl, ?_⟩
  refine ⟨fun _ => h10_3, ?_⟩
  have L36 := L29.trans h10_3
  have oh10_3 := oh10_3.cast (m' := 0) rfl rfl
  refine G.any rfl rfl (.move rfl) rfl rfl rfl ?_
  refine G.any rfl rfl (.extract (v := .slice Ah10_3 0 ch10_3) rfl rfl) rfl rfl rfl ?_
  refine G.any rfl rfl (.extract (v := .int .i64 (1)) rfl rfl) rfl rfl rfl ?_
  refine G.any rfl rfl (.assign rfl) rfl rfl rfl ?_
  refine G.any rfl rfl (.assign rfl) rfl rfl rfl ?_
  refine G.nil ?_
  refine E.thenN ?_
  refine WC.seq ?_
  refine WC.region ?_
  refine W.any (.move rfl) rfl rfl rfl ?_
  have f37 := (((og2_9.le (h3_1.trans (h4_1.trans (h5_1.trans (d6.trans (h6_6.trans (h6_7.trans (h7_1.trans (h8_0.trans (h8_1.trans h8_5)))))))))).ch h8_6 (fun q hq => by cases hq; exact (fun he => by have := (og2_9.row he).2; have := h3_1.size; have := h4_1.size; have := h5_1.size; have := d6.size; have := h6_6.size; have := h6_7.size; have := h7_1.size; have := h8_0.size; have := h8_1.size; omega))).le (h9_2.trans (d10.trans h10_3)))
  refine W.ef rfl rfl rfl ?_
  refine Ef.call go13 rfl rfl ((by have k := find_ok (c := cg2_9) 5 2 w10_3 f37.vec (by decide); rw [s_find1] at k; (try simp only [List.length_cons, List.length_nil, Nat.zero_add, Nat.reduceAdd] at k); exact k)) ?_
  rintro _ w11_1 ⟨rfl, h11_1⟩
  refine ⟨_, rfl, ?_⟩
  have L38 := L36.trans h11_1
  refine W.any (.move rfl) rfl rfl rfl ?_
  refine W.any (.extract (v := .agg (edgeV sE3).toArray) rfl rfl) rfl rfl rfl ?_
  refine W.any (.extract (v := .bool true) rfl rfl) rfl rfl rfl ?_
  refine W.ef rfl rfl rfl ?_
  refine Ef.allocA z36 ?_
  intro g11_5 w11_5 hg11_5 b11_5 h11_5
  have L39 := L38.trans h11_5
  have b11_5 : Blk w11_5 g11_5 36 (edgeV noEdge).toArray := b11_5
  refine W.ef0 rfl rfl ?_
  refine Ef.storeAll sz36 (by rfl) rfl rfl b11_5 (by simp only [List.size_toArray, edgeV_row.len]) (edgeV_row.one sE3) ?_
  intro w11_6 b11_6 h11_6
  have b11_6 : Blk w11_6 g11_5 36 (edgeV sE3).toArray := b11_6
  have L40 : Le w w11_6 := L39.then_ h11_6 (fun q hq => by cases hq; exact Nat.le_trans L38.size hg11_5)
  refine W.any (.assign rfl) rfl rfl rfl ?_
  refine W.nil ?_
  refine E.thenN ?_
  refine WC.seq ?_
  refine WC.region ?_
  refine W.any (.move rfl) rfl rfl rfl ?_
  have f41 := ((f37.le (h11_1.trans h11_5)).ch h11_6 (fun q hq => by cases hq; exact (fun he => by have := (f37.row he).2; have := h11_1.size; omega)))
  refine W.ef rfl rfl rfl ?_
  refine Ef.call go13 rfl rfl ((by have k := find_ok (c := cg2_9) 5 4 w11_6 f41.vec (by decide); rw [s_find2] at k; (try simp only [List.length_cons, List.length_nil, Nat.zero_add, Nat.reduceAdd] at k); exact k)) ?_
  rintro _ w12_1 ⟨rfl, h12_1⟩
  refine ⟨_, rfl, ?_⟩
  have L42 := L40.trans h12_1
  refine W.any (.move rfl) rfl rfl rfl ?_
  refine W.any (.extract (v := .agg (edgeV noEdge).toArray) rfl rfl) rfl rfl rfl ?_
  refine W.any (.extract (v := .bool false) rfl rfl) rfl rfl rfl ?_
  refine W.ef rfl rfl rfl ?_
  refine Ef.allocA z36 ?_
  intro g12_5 w12_5 hg12_5 b12_5 h12_5
  have L43 := L42.trans h12_5
  have b12_5 : Blk w12_5 g12_5 36 (edgeV noEdge).toArray := b12_5
  refine W.ef0 rfl rfl ?_
  refine Ef.storeAll sz36 (by rfl) rfl rfl b12_5 (by simp only [List.size_toArray, edgeV_row.len]) (edgeV_row.one noEdge) ?_
  intro w12_6 b12_6 h12_6
  have b12_6 : Blk w12_6 g12_5 36 (edgeV noEdge).toArray := b12_6
  have L44 : Le w w12_6 := L43.then_ h12_6 (fun q hq => by cases hq; exact Nat.le_trans L42.size hg12_5)
  refine W.any (.assign rfl) rfl rfl rfl ?_
  refine W.nil ?_
  refine E.thenN ?_
  refine WC.seq ?_
  refine WC.seq ?_
  refine WC.region ?_
  refine W.any (.move rfl) rfl rfl rfl ?_
  refine W.rd (.len Tryz.underlying44 rfl) rfl rfl rfl ?_
  refine W.any (.dec (.neq rfl rfl) (show _ = false from by first | decide | rfl)) rfl rfl rfl ?_
  refine W.any (.move rfl) rfl rfl rfl ?_
  refine W.rdg (Any.rd (.move rfl) _) rfl rfl rfl (rfl) rfl rfl ?_
  refine W.rdg (.len Tryz.underlying63 rfl) rfl rfl rfl (rfl) rfl rfl ?_
  refine W.rdg (Any.rd (.dec (.neq rfl rfl) (show _ = false from by first | decide | rfl)) _) rfl rfl rfl (rfl) rfl rfl ?_
  refine W.any (.pickF rfl rfl rfl) rfl rfl rfl ?_
  refine W.nil ?_
  refine E.thenN ?_
  refine WC.condF rfl ?_
  refine WC.skip ?_
  refine E.thenN ?_
  refine WC.seq ?_
  refine WC.region ?_
  refine W.any (.move rfl) rfl rfl rfl ?_
  refine W.ef rfl rfl rfl ?_
  refine Ef.buildSliceV (len := 2) [_, _] Tryz.underlying23 el3 rfl (by simp [Value.cells]) rfl (by decide) (by decide) ?_
  intro g15_1 w15_1 hg15_1 b15_1 h15_1
  have L45 := L44.trans h15_1
  have b15_1 : Blk w15_1 g15_1 3 (([110, 100]).map iv).flatten.toArray := b15_1
  have o15_1 : OVec w15_1 w12_6.heap.size 3 iv 1 (some ⟨g15_1, 0, none⟩) 2 2 ([110, 100]) := b15_1.ovec hg15_1 iv_row rfl rfl (by decide)
  have f46 := (((((((oa3_1.le (h4_1.trans (h5_1.trans (d6.trans (h6_6.trans (h6_7.trans (h7_1.trans (h8_0.trans (h8_1.trans h8_5))))))))).ch h8_6 (fun q hq => by cases hq; exact (fun he => by have := (oa3_1.row he).2; have := h4_1.size; have := h5_1.size; have := d6.size; have := h6_6.size; have := h6_7.size; have := h7_1.size; have := h8_0.size; have := h8_1.size; omega))).le (h9_2.trans (d10.trans (h10_3.trans (h11_1.trans h11_5))))).ch h11_6 (fun q hq => by cases hq; exact (fun he => by have := (oa3_1.row he).2; have := h4_1.size; have := h5_1.size; have := d6.size; have := h6_6.size; have := h6_7.size; have := h7_1.size; have := h8_0.size; have := h8_1.size; have := h8_5.size; have := h8_6.size; have := h9_2.size; have := d10.size; have := h10_3.size; have := h11_1.size; omega))).le (h12_1.trans h12_5)).ch h12_6 (fun q hq => by cases hq; exact (fun he => by have := (oa3_1.row he).2; have := h4_1.size; have := h5_1.size; have := d6.size; have := h6_6.size; have := h6_7.size; have := h7_1.size; have := h8_0.size; have := h8_1.size; have := h8_5.size; have := h8_6.size; have := h9_2.size; have := d10.size; have := h10_3.size; have := h11_1.size; have := h11_5.size; have := h11_6.size; have := h12_1.size; omega))).le h15_1)
  refine W.ef rfl rfl rfl ?_
  refine Ef.call go20 rfl rfl (ints_ok w15_1 f46.vec o15_1.vec (by omega)) ?_
  rintro _ w15_2 ⟨rfl, h15_2⟩
  refine ⟨_, rfl, ?_⟩
  have L47 := L45.trans h15_2
  refine W.any (.dec (.move rfl) (decide_eq_true rfl)) rfl rfl rfl ?_
  refine W.rdg (Any.rd (.move rfl) _) rfl rfl rfl (rfl) rfl rfl ?_
  refine W.efg rfl rfl rfl (rfl) rfl rfl ?_
  refine Ef.buildSliceV (len := 2) [_, _] Tryz.underlying23 el3 rfl (by simp [Value.cells]) rfl (by decide) (by decide) ?_
  intro g15_5 w15_5 hg15_5 b15_5 h15_5
  have L48 := L47.trans h15_5
  have b15_5 : Blk w15_5 g15_5 3 (([55, 50]).map iv).flatten.toArray := b15_5
  have o15_5 : OVec w15_5 w15_2.heap.size 3 iv 1 (some ⟨g15_5, 0, none⟩) 2 2 ([55, 50]) := b15_5.ovec hg15_5 iv_row rfl rfl (by decide)
  have f49 := (((((((ob3_1.le (h4_1.trans (h5_1.trans (d6.trans (h6_6.trans (h6_7.trans (h7_1.trans (h8_0.trans (h8_1.trans h8_5))))))))).ch h8_6 (fun q hq => by cases hq; exact (fun he => by have := (ob3_1.row he).2; have := h4_1.size; have := h5_1.size; have := d6.size; have := h6_6.size; have := h6_7.size; have := h7_1.size; have := h8_0.size; have := h8_1.size; omega))).le (h9_2.trans (d10.trans (h10_3.trans (h11_1.trans h11_5))))).ch h11_6 (fun q hq => by cases hq; exact (fun he => by have := (ob3_1.row he).2; have := h4_1.size; have := h5_1.size; have := d6.size; have := h6_6.size; have := h6_7.size; have := h7_1.size; have := h8_0.size; have := h8_1.size; have := h8_5.size; have := h8_6.size; have := h9_2.size; have := d10.size; have := h10_3.size; have := h11_1.size; omega))).le (h12_1.trans h12_5)).ch h12_6 (fun q hq => by cases hq; exact (fun he => by have := (ob3_1.row he).2; have := h4_1.size; have := h5_1.size; have := d6.size; have := h6_6.size; have := h6_7.size; have := h7_1.size; have := h8_0.size; have := h8_1.size; have := h8_5.size; have := h8_6.size; have := h9_2.size; have := d10.size; have := h10_3.size; have := h11_1.size; have := h11_5.size; have := h11_6.size; have := h12_1.size; omega))).le (h15_1.trans (h15_2.trans h15_5)))
  refine W.efg rfl rfl rfl (rfl) rfl rfl ?_
  refine Ef.call go20 rfl rfl (ints_ok w15_5 f49.vec o15_5.vec (by omega)) ?_
  rintro _ w15_6 ⟨rfl, h15_6⟩
  refine ⟨_, rfl, ?_⟩
  have L50 := L48.trans h15_6
  refine W.any (.pickT rfl rfl rfl) rfl rfl rfl ?_
  refine W.any (.dec (.move rfl) (decide_eq_true rfl)) rfl rfl rfl ?_
  refine W.rdg (Any.rd (.move rfl) _) rfl rfl rfl (rfl) rfl rfl ?_
  refine W.rdg (Any.rd (.dec (.eql rfl rfl) (show _ = true from by first | decide | rfl)) _) rfl rfl rfl (rfl) rfl rfl ?_
  refine W.any (.pickT rfl rfl rfl) rfl rfl rfl ?_
  refine W.any (.move rfl) rfl rfl rfl ?_
  refine W.rdg (Any.rd (.move rfl) _) rfl rfl rfl (rfl) rfl rfl ?_
  refine W.rdg (Any.rd (.dec (.eql rfl rfl) (show _ = true from by first | decide | rfl)) _) rfl rfl rfl (rfl) rfl rfl ?_
  refine W.any (.pickT rfl rfl rfl) rfl rfl rfl ?_
  refine W.any (.move rfl) rfl rfl rfl ?_
  refine W.rdg (Any.rd (.move rfl) _) rfl rfl rfl (rfl) rfl rfl ?_
  refine W.rdg (Any.rd (.dec (.eql rfl rfl) (show _ = true from by first | decide | rfl)) _) rfl rfl rfl (rfl) rfl rfl ?_
  refine W.any (.pickT rfl rfl rfl) rfl rfl rfl ?_
  refine W.any (.move rfl) rfl rfl rfl ?_
  refine W.rdg (Any.rd (.move rfl) _) rfl rfl rfl (rfl) rfl rfl ?_
  refine W.rdg (Any.rd (.dec (.eql rfl rfl) (show _ = true from by first | decide | rfl)) _) rfl rfl rfl (rfl) rfl rfl ?_
  refine W.any (.pickT rfl rfl rfl) rfl rfl rfl ?_
  refine W.any (.move rfl) rfl rfl rfl ?_
  refine W.rdg (Any.rd (.move rfl) _) rfl rfl rfl (rfl) rfl rfl ?_
  refine W.rdg (Any.rd (.dec (.eql rfl rfl) (show _ = true from by first | decide | rfl)) _) rfl rfl rfl (rfl) rfl rfl ?_
  refine W.any (.pickT rfl rfl rfl) rfl rfl rfl ?_
  refine W.any (.move rfl) rfl rfl rfl ?_
  refine W.rdg (Any.rd (.move rfl) _) rfl rfl rfl (rfl) rfl rfl ?_
  have f51 := (((f41.le (h12_1.trans h12_5)).ch h12_6 (fun q hq => by cases hq; exact (fun he => by have := (f41.row he).2; have := h12_1.size; omega))).le (h15_1.trans (h15_2.trans (h15_5.trans h15_6))))
  refine W.efg rfl rfl rfl (rfl) rfl rfl ?_
  refine Ef.call go10 rfl rfl ((by have k := gright_ok (c := cg2_9) w15_6 f51.vec (by decide); rw [s_right] at k; (try simp only [List.length_cons, List.length_nil, Nat.zero_add, Nat.reduceAdd] at k); exact k)) ?_
  rintro _ w15_30 ⟨rfl, h15_30⟩
  refine ⟨_, rfl, ?_⟩
  have L52 := L50.trans h15_30
  refine W.any (.pickT rfl rfl rfl) rfl rfl rfl ?_
  refine W.any (.move rfl) rfl rfl rfl ?_
  refine W.rdg (Any.rd (.move rfl) _) rfl rfl rfl (rfl) rfl rfl ?_
  refine W.rdg (Any.rd (.idxS (0) Tryz.underlying44 sz36 rfl rfl (og2_9.vec.isSome edgeV_row (by omega)) (rfl) (by omega)) _) rfl rfl rfl (rfl) rfl rfl ?_
  refine W.rdg (Any.rd (.vfield fa36_2 (og2_9.vec.isSome edgeV_row (by omega)) rfl) _) rfl rfl rfl (rfl) rfl rfl ?_
  have f53 := (f51.le h15_30)
  refine W.rdg (.vcell (j := 0) (o := 2) (v := .int .i64 ((([sE2, sE1, sE3]).getD 0 noEdge).c)) na3 rfl f53.vec edgeV_row (getS ([sE2, sE1, sE3]) noEdge (by first | omega | (simp only [List.length_cons, List.length_nil]; omega))) rfl) rfl rfl rfl (rfl) rfl rfl ?_
  refine W.rdg (Any.rd (.eql rfl rfl) _) rfl rfl rfl (rfl) rfl rfl ?_
  refine W.any (.pickT rfl rfl rfl) rfl rfl rfl ?_
  refine W.any (.dec (.move rfl) (decide_eq_true rfl)) rfl rfl rfl ?_
  refine W.rdg (Any.rd (.move rfl) _) rfl rfl rfl (rfl) rfl rfl ?_
  refine W.rdg (Any.rd (.idxS (1) Tryz.underlying44 sz36 rfl rfl (og2_9.vec.isSome edgeV_row (by omega)) (rfl) (by omega)) _) rfl rfl rfl (rfl) rfl rfl ?_
  refine W.rdg (Any.rd (.vfield fa36_0 (og2_9.vec.isSome edgeV_row (by omega)) rfl) _) rfl rfl rfl (rfl) rfl rfl ?_
  refine W.rdg (.vcell (j := 1) (o := 0) (v := .int .i64 ((([sE2, sE1, sE3]).getD 1 noEdge).f)) na3 rfl f53.vec edgeV_row (getS ([sE2, sE1, sE3]) noEdge (by first | omega | (simp only [List.length_cons, List.length_nil]; omega))) rfl) rfl rfl rfl (rfl) rfl rfl ?_
  refine W.rdg (Any.rd (.dec (.eql rfl rfl) (decide_eq_true rfl)) _) rfl rfl rfl (rfl) rfl rfl ?_
  refine W.any (.pickT rfl rfl rfl) rfl rfl rfl ?_
  refine W.any (.assign rfl) rfl rfl rfl ?_
  refine W.nil ?_
  refine E.thenN ?_
  refine WC.seq ?_
  refine WC.draw [0, 1, 2, 3, 4, 5, 6, 7, 8, 9, 10, 11, 12, 13, 14, 15, 16, 17, 18, 19, 20, 21, 22, 23, 24] mixed (by kernel_rfl) ?_
  intro w16 d16
  have L54 := L52.trans d16
  refine G.any rfl rfl (.move rfl) rfl rfl rfl ?_
  refine G.any rfl rfl (.dec (.eql rfl rfl) (show _ = true from by first | decide | rfl)) rfl rfl rfl ?_
  refine G.any rfl rfl (.move rfl) rfl rfl rfl ?_
  refine G.anyg rfl rfl (.move rfl) rfl rfl rfl (rfl) rfl rfl ?_
  refine G.anyg rfl rfl (.idxS (0) Tryz.underlying63 sz68 rfl rfl (oh9_2.vec.isSome hopV_row (by omega)) (rfl) (by omega)) rfl rfl rfl (rfl) rfl rfl ?_
  have f55 := (((((oh9_2.le (d10.trans (h10_3.trans (h11_1.trans h11_5)))).ch h11_6 (fun q hq => by cases hq; exact (fun he => by have := (oh9_2.row he).2; have := d10.size; have := h10_3.size; have := h11_1.size; omega))).le (h12_1.trans h12_5)).ch h12_6 (fun q hq => by cases hq; exact (fun he => by have := (oh9_2.row he).2; have := d10.size; have := h10_3.size; have := h11_1.size; have := h11_5.size; have := h11_6.size; have := h12_1.size; omega))).le (h15_1.trans (h15_2.trans (h15_5.trans (h15_6.trans (h15_30.trans d16))))))
  refine G.rdg rfl rfl (.vload ag68 rfl f55.vec hopV_row (getS ([(4, 3, 100, 50, 4, b0), (-1, 0, 100, 50, 4, 0)]) noHop (by first | omega | (simp only [List.length_cons, List.length_nil]; omega)))) rfl rfl rfl (rfl) rfl rfl ?_
  refine G.anyg rfl rfl (.field0 fa57_1 rfl) rfl rfl rfl (rfl) rfl rfl ?_
  have f56 := (((((f33.le (h10_3.trans (h11_1.trans h11_5))).ch h11_6 (fun h => (show g11_5 ≠ g8_5 from by have := f33.lt; have := h10_3.size; have := h11_1.size; omega) (Option.some.inj h))).le (h12_1.trans h12_5)).ch h12_6 (fun h => (show g12_5 ≠ g8_5 from by have := f33.lt; have := h10_3.size; have := h11_1.size; have := h11_5.size; have := h11_6.size; have := h12_1.size; omega) (Option.some.inj h))).le (h15_1.trans (h15_2.trans (h15_5.trans (h15_6.trans (h15_30.trans d16))))))
  refine G.rdg rfl rfl (.loadB (v := .slice Abl 1 cbl) na24 rfl f56 rfl) rfl rfl rfl (rfl) rfl rfl ?_
  refine G.anyg rfl rfl (.idxS (0) Tryz.underlying24 sz30 rfl rfl (obl.vec.isSome pv1_row (by omega)) (rfl) (by omega)) rfl rfl rfl (rfl) rfl rfl ?_
  have f57 := (((((f35.le (h10_3.trans (h11_1.trans h11_5))).ch h11_6 (fun q hq => by cases hq; exact (fun he => by have := (f35.row he).2; have := h10_3.size; have := h11_1.size; omega))).le (h12_1.trans h12_5)).ch h12_6 (fun q hq => by cases hq; exact (fun he => by have := (f35.row he).2; have := h10_3.size; have := h11_1.size; have := h11_5.size; have := h11_6.size; have := h12_1.size; omega))).le (h15_1.trans (h15_2.trans (h15_5.trans (h15_6.trans (h15_30.trans d16))))))
  refine G.rdg rfl rfl (.vone (v := .int .u64 ((((([b0]).getD 0 0) : Nat) : Int))) na30 rfl f57.vec pv1_row (getS ([b0]) 0 (by first | omega | (simp only [List.length_cons, List.length_nil]; omega))) rfl) rfl rfl rfl (rfl) rfl rfl ?_
  refine G.anyg rfl rfl (.buildP (hopV (4, 3, 100, 50, 4, (([b0]).getD 0 0))) pl68 z68 rfl rfl) rfl rfl rfl (rfl) rfl rfl ?_
  refine G.anyg rfl rfl (.eqA eg68 rfl rfl (eqv_hop (d := 9998) _ _)) rfl rfl rfl (rfl) rfl rfl ?_
  refine G.any rfl rfl (.pickT rfl rfl rfl) rfl rfl rfl ?_
  refine G.any rfl rfl (.dec (.move rfl) (decide_eq_true rfl)) rfl rfl rfl ?_
  refine G.anyg rfl rfl (.move rfl) rfl rfl rfl (rfl) rfl rfl ?_
  refine G.anyg rfl rfl (.idxS (1) Tryz.underlying63 sz68 rfl rfl (oh9_2.vec.isSome hopV_row (by omega)) (rfl) (by omega)) rfl rfl rfl (rfl) rfl rfl ?_
  refine G.rdg rfl rfl (.vload ag68 rfl f55.vec hopV_row (getS ([(4, 3, 100, 50, 4, b0), (-1, 0, 100, 50, 4, 0)]) noHop (by first | omega | (simp only [List.length_cons, List.length_nil]; omega)))) rfl rfl rfl (rfl) rfl rfl ?_
  refine G.anyg rfl rfl (.buildP (hopV ((-1), 0, 100, 50, 4, 0)) pl68 z68 rfl rfl) rfl rfl rfl (rfl) rfl rfl ?_
  refine G.anyg rfl rfl (.dec (.eqA eg68 rfl rfl (eqv_hop (d := 9998) _ _)) (decide_eq_true rfl)) rfl rfl rfl (rfl) rfl rfl ?_
  refine G.any rfl rfl (.pickT rfl rfl rfl) rfl rfl rfl ?_
  refine G.any rfl rfl (.move rfl) rfl rfl rfl ?_
  refine G.anyg rfl rfl (.move rfl) rfl rfl rfl (rfl) rfl rfl ?_
  refine G.anyg rfl rfl (.dec (.eql rfl rfl) (show _ = true from by first | decide | rfl)) rfl rfl rfl (rfl) rfl rfl ?_
  refine G.any rfl rfl (.pickT rfl rfl rfl) rfl rfl rfl ?_
  refine G.any rfl rfl (.assign rfl) rfl rfl rfl ?_
  refine G.nil ?_
  refine E.thenN ?_
  refine WC.seq ?_
  refine WC.draw [0, 1, 2, 3, 4, 5, 6, 7, 8, 9, 10, 11, 12, 13, 14, 15, 16, 17, 18, 19, 20, 21, 22, 23, 24, 25, 26, 27, 28, 29, 30, 31, 32, 33, 34, 35, 36, 37, 38, 39, 40, 41, 42, 43, 44, 45] mixed (by kernel_rfl) ?_
  intro w17 d17
  have L58 := L54.trans d17
  refine G.any rfl rfl (.move rfl) rfl rfl rfl ?_
  refine G.any rfl rfl (.move rfl) rfl rfl rfl ?_
  refine G.anyg rfl rfl (.move rfl) rfl rfl rfl (rfl) rfl rfl ?_
  refine G.any rfl rfl (.pickT rfl rfl rfl) rfl rfl rfl ?_
  refine G.any rfl rfl (.move rfl) rfl rfl rfl ?_
  refine G.anyg rfl rfl (.move rfl) rfl rfl rfl (rfl) rfl rfl ?_
  refine G.any rfl rfl (.pickT rfl rfl rfl) rfl rfl rfl ?_
  refine G.any rfl rfl (.move rfl) rfl rfl rfl ?_
  refine G.anyg rfl rfl (.field0 fa36_1 rfl) rfl rfl rfl (rfl) rfl rfl ?_
  have f59 := (((b11_6.le (h12_1.trans h12_5)).ch h12_6 (fun h => (show g12_5 ≠ g11_5 from by have := b11_6.lt; have := h12_1.size; omega) (Option.some.inj h))).le (h15_1.trans (h15_2.trans (h15_5.trans (h15_6.trans (h15_30.trans (d16.trans d17)))))))
  refine G.rdg rfl rfl (.loadB (v := .int .i64 (sE3.t)) na3 rfl f59 rfl) rfl rfl rfl (rfl) rfl rfl ?_
  refine G.anyg rfl rfl (.dec (.eql rfl rfl) (decide_eq_true rfl)) rfl rfl rfl (rfl) rfl rfl ?_
  refine G.any rfl rfl (.pickT rfl rfl rfl) rfl rfl rfl ?_
  refine G.any rfl rfl (.move rfl) rfl rfl rfl ?_
  refine G.anyg rfl rfl (.move rfl) rfl rfl rfl (rfl) rfl rfl ?_
  refine G.anyg rfl rfl (.not rfl) rfl rfl rfl (rfl) rfl rfl ?_
  refine G.any rfl rfl (.pickT rfl rfl rfl) rfl rfl rfl ?_
  refine G.any rfl rfl (.move rfl) rfl rfl rfl ?_
  refine G.anyg rfl rfl (.move rfl) rfl rfl rfl (rfl) rfl rfl ?_
  have f60 := (f53.le (d16.trans d17))
  refine G.efg rfl rfl rfl rfl rfl (rfl) rfl rfl ?_
  refine Ef.call go21 rfl rfl ((by have k := out_ok (c := cg2_9) 2 w17 f60.vec (by decide); rw [s_out] at k; (try simp only [List.length_cons, List.length_nil, Nat.zero_add, Nat.reduceAdd] at k); exact k)) ?_
  rintro _ w17_18 ⟨Ao17_18, co17_18, rfl, oo17_18, h17_18⟩
  refine ⟨_, rfl, ?_⟩
  refine ⟨fun _ => h17_18, ?_⟩
  have L61 := L58.trans h17_18
  refine G.rdg rfl rfl (.len Tryz.underlying44 rfl) rfl rfl rfl (rfl) rfl rfl ?_
  refine G.anyg rfl rfl (.dec (.eql rfl rfl) (show _ = true from by first | decide | rfl)) rfl rfl rfl (rfl) rfl rfl ?_
  refine G.any rfl rfl (.pickT rfl rfl rfl) rfl rfl rfl ?_
  refine G.any rfl rfl (.move rfl) rfl rfl rfl ?_
  refine G.anyg rfl rfl (.move rfl) rfl rfl rfl (rfl) rfl rfl ?_
  have f62 := (f60.le h17_18)
  refine G.efg rfl rfl rfl rfl rfl (rfl) rfl rfl ?_
  refine Ef.call go22 rfl rfl ((by have k := in_ok (c := cg2_9) 2 w17_18 f62.vec (by decide); rw [s_in] at k; (try simp only [List.length_cons, List.length_nil, Nat.zero_add, Nat.reduceAdd] at k); exact k)) ?_
  rintro _ w17_24 ⟨Ao17_24, co17_24, rfl, oo17_24, h17_24⟩
  refine ⟨_, rfl, ?_⟩
  refine ⟨fun _ => h17_24, ?_⟩
  have L63 := L61.trans h17_24
  refine G.rdg rfl rfl (.len Tryz.underlying44 rfl) rfl rfl rfl (rfl) rfl rfl ?_
  refine G.anyg rfl rfl (.dec (.eql rfl rfl) (show _ = true from by first | decide | rfl)) rfl rfl rfl (rfl) rfl rfl ?_
  refine G.any rfl rfl (.pickT rfl rfl rfl) rfl rfl rfl ?_
  refine G.any rfl rfl (.move rfl) rfl rfl rfl ?_
  refine G.anyg rfl rfl (.move rfl) rfl rfl rfl (rfl) rfl rfl ?_
  have f64 := (((((f30.le (h10_3.trans (h11_1.trans h11_5))).ch h11_6 (fun q hq => by cases hq; exact (fun he => by have := (f30.row he).2; have := h10_3.size; have := h11_1.size; omega))).le (h12_1.trans h12_5)).ch h12_6 (fun q hq => by cases hq; exact (fun he => by have := (f30.row he).2; have := h10_3.size; have := h11_1.size; have := h11_5.size; have := h11_6.size; have := h12_1.size; omega))).le (h15_1.trans (h15_2.trans (h15_5.trans (h15_6.trans (h15_30.trans (d16.trans (d17.trans (h17_18.trans h17_24)))))))))
  refine G.efg rfl rfl rfl rfl rfl (rfl) rfl rfl ?_
  refine Ef.call go23 rfl rfl ((by have k := gway_ok (c := 2) w17_24 f64.vec (by decide); rw [s_way1] at k; (try simp only [List.length_cons, List.length_nil, Nat.zero_add, Nat.reduceAdd] at k); exact k)) ?_
  rintro _ w17_30 ⟨rfl, h17_30⟩
  refine ⟨_, rfl, ?_⟩
  refine ⟨fun _ => h17_30, ?_⟩
  have L65 := L63.trans h17_30
  refine G.any rfl rfl (.pickT rfl rfl rfl) rfl rfl rfl ?_
  refine G.any rfl rfl (.move rfl) rfl rfl rfl ?_
  refine G.anyg rfl rfl (.move rfl) rfl rfl rfl (rfl) rfl rfl ?_
  refine G.anyg rfl rfl (.idxS (0) Tryz.underlying44 sz36 rfl rfl (o1_2.vec.isSome edgeV_row (by omega)) (rfl) (by omega)) rfl rfl rfl (rfl) rfl rfl ?_
  have f66 := (f64.le h17_30)
  refine G.rdg rfl rfl (.vload ag36 rfl f66.vec edgeV_row (rfl)) rfl rfl rfl (rfl) rfl rfl ?_
  refine G.efg rfl rfl rfl rfl rfl (rfl) rfl rfl ?_
  refine Ef.call go15 rfl rfl (ledge_ok 2 1 5 0 0 w17_30) ?_
  rintro _ w17_36 ⟨rfl, h17_36⟩
  refine ⟨_, rfl, ?_⟩
  refine ⟨fun _ => h17_36, ?_⟩
  have L67 := L65.trans h17_36
  refine G.efg rfl rfl rfl rfl rfl (rfl) rfl rfl ?_
  refine Ef.buildSliceV (len := 2) [_, _] Tryz.underlying44 el36 rfl (by simp [Value.cells, edgeV_row.len]) rfl (by decide) (by decide) ?_
  intro g17_37 w17_37 hg17_37 b17_37 h17_37
  refine ⟨fun _ => h17_37, ?_⟩
  have L68 := L67.trans h17_37
  have b17_37 : Blk w17_37 g17_37 36 (([sE1, sE3]).map edgeV).flatten.toArray := b17_37
  have o17_37 : OVec w17_37 w17_36.heap.size 36 edgeV 9 (some ⟨g17_37, 0, none⟩) 2 2 ([sE1, sE3]) := b17_37.ovec hg17_37 edgeV_row rfl rfl (by decide)
  refine G.efg rfl rfl rfl rfl rfl (rfl) rfl rfl ?_
  refine Ef.call go23 rfl rfl ((by have k := gway_ok (c := 2) w17_37 o17_37.vec (by decide); rw [s_way2] at k; (try simp only [List.length_cons, List.length_nil, Nat.zero_add, Nat.reduceAdd] at k); exact k)) ?_
  rintro _ w17_38 ⟨rfl, h17_38⟩
  refine ⟨_, rfl, ?_⟩
  refine ⟨fun _ => h17_38, ?_⟩
  have L69 := L68.trans h17_38
  refine G.anyg rfl rfl (.not rfl) rfl rfl rfl (rfl) rfl rfl ?_
  refine G.any rfl rfl (.pickT rfl rfl rfl) rfl rfl rfl ?_
  refine G.any rfl rfl (.move rfl) rfl rfl rfl ?_
  refine G.efg rfl rfl rfl rfl rfl (rfl) rfl rfl ?_
  refine Ef.call go23 rfl rfl ((by have k := gway_ok (c := 0) w17_38 (Vec.nil _ _ _ none) (by decide); rw [s_way3] at k; (try simp only [List.length_cons, List.length_nil, Nat.zero_add, Nat.reduceAdd] at k); exact k)) ?_
  rintro _ w17_42 ⟨rfl, h17_42⟩
  refine ⟨_, rfl, ?_⟩
  refine ⟨fun _ => h17_42, ?_⟩
  have L70 := L69.trans h17_42
  refine G.anyg rfl rfl (.not rfl) rfl rfl rfl (rfl) rfl rfl ?_
  refine G.any rfl rfl (.pickT rfl rfl rfl) rfl rfl rfl ?_
  refine G.any rfl rfl (.assign rfl) rfl rfl rfl ?_
  refine G.nil ?_
  refine E.thenN ?_
  refine WC.ret ?_
  refine E.retG1 rfl rfl ?_
  exact ⟨rfl, L70⟩
end Go.Proofs.YtgpdfkplkaojcaaGreat

namespace Go.Proofs.YtgpdfkplkaojcaaGreat
open Go Go.Sx Go.Hsp Go.Num Go.Osp Go.Gsp Go.Stab
set_option maxRecDepth 20000
set_option linter.unusedSimpArgs false
set_option linter.unusedVariables false
theorem swapR_ok (a b q : Nat) {base : Nat} {A : Option Addr} {n c : Nat} {xs : List Gsp.Edge} (w : World) (hO : OVec w base 36 edgeV 9 A n c xs) (h1 : a + q ≤ b) (h2 : b + q ≤ n) (hn : n ≤ 1000000) : Calls Tryz.prog 121 #[.slice A n c, .int .i64 (((a : Nat) : Int)), .int .i64 (((b : Nat) : Int)), .int .i64 (((q : Nat) : Int)), .func (.func 37) #[] #[]] w fun r w' => r = .returned (.tuple #[]) ∧ OVec w' base 36 edgeV 9 A n c (swR noEdge a b q xs) ∧ Ch w w' (rowOf A c) := by
  have hl := hO.1
  refine enter Tryz.func121 rfl rfl ?_
  have L0 := Ch.refl w (rowOf A c)
  refine WC.seq ?_
  refine WC.region ?_
  refine W.any (.assign rfl) rfl rfl rfl ?_
  refine W.nil ?_
  refine E.thenN ?_
  refine WC.block ?_
  refine WC.loop (ι := Nat) (fun i => [(0, .slice A n c), (1, .int .i64 (((a : Nat) : Int))), (2, .int .i64 (((b : Nat) : Int))), (3, .int .i64 (((q : Nat) : Int))), (10, .int .i64 (((i : Nat) : Int)))]) (fun i wl0 => (i ≤ q) ∧ Ch w wl0 (rowOf A c) ∧ w.heap.size ≤ wl0.heap.size ∧ OVec wl0 base 36 edgeV 9 A n c (swR noEdge a b i xs)) (fun i => q - i) 0 ?_ ?_ ?_
  · exact .cons rfl (.cons rfl (.cons rfl (.cons rfl (.cons rfl (.nil _)))))
  · exact ⟨Nat.zero_le _, L0, Nat.le_refl _, hO⟩
  · rintro i wl0 ⟨hi, Ll0, zl0, f0_0⟩
    have hsl := swR_len noEdge a b xs i
    refine WC.seq ?_
    refine WC.seq ?_
    refine WC.region ?_
    refine W.any (.move rfl) rfl rfl rfl ?_
    refine W.any (.move rfl) rfl rfl rfl ?_
    refine W.any (.lss rfl rfl) rfl rfl rfl ?_
    refine W.nil ?_
    refine E.thenN ?_
    by_cases c0 : ((i : Nat) : Int) < ((q : Nat) : Int)
    · refine WC.condY rfl (decide_eq_true c0) ?_
      refine WC.skip ?_
      refine E.thenN ?_
      refine WC.seq ?_
      refine WC.block ?_
      refine WC.draw [0, 1, 2, 3, 4, 5, 6, 7, 8, 9, 10, 11, 12, 13, 14, 15, 16, 17, 18, 19, 20, 21, 22, 23] mixed (by kernel_rfl) ?_
      intro w3 d3
      have L1 := Ll0.trans (d3.ch _)
      refine G.any rfl rfl (.move rfl) rfl rfl rfl ?_
      refine G.any rfl rfl (.move rfl) rfl rfl rfl ?_
      refine G.any rfl rfl (.move rfl) rfl rfl rfl ?_
      refine G.any rfl rfl (.add rfl rfl (by omega)) rfl rfl rfl ?_
      refine G.any rfl rfl (.move rfl) rfl rfl rfl ?_
      refine G.any rfl rfl (.move rfl) rfl rfl rfl ?_
      refine G.any rfl rfl (.move rfl) rfl rfl rfl ?_
      refine G.any rfl rfl (.add rfl rfl (by omega)) rfl rfl rfl ?_
      refine G.any rfl rfl (.move rfl) rfl rfl rfl ?_
      refine G.any rfl rfl (.move rfl) rfl rfl rfl ?_
      refine G.any rfl rfl (.move rfl) rfl rfl rfl ?_
      refine G.any rfl rfl (.add rfl rfl (by omega)) rfl rfl rfl ?_
      refine G.any rfl rfl (.idxS ((b + i)) Tryz.underlying44 sz36 rfl rfl (hO.vec.isSome edgeV_row (by omega)) (by omega) (by omega)) rfl rfl rfl ?_
      have f2 := (f0_0.le d3)
      refine G.rd rfl rfl (.vload ag36 rfl f2.vec edgeV_row (getS (swR noEdge a b i xs) noEdge (by first | omega | (simp only [List.length_cons, List.length_nil]; omega)))) rfl rfl rfl ?_
      refine G.any rfl rfl (.move rfl) rfl rfl rfl ?_
      refine G.any rfl rfl (.move rfl) rfl rfl rfl ?_
      refine G.any rfl rfl (.move rfl) rfl rfl rfl ?_
      refine G.any rfl rfl (.add rfl rfl (by omega)) rfl rfl rfl ?_
      refine G.any rfl rfl (.idxS ((a + i)) Tryz.underlying44 sz36 rfl rfl (hO.vec.isSome edgeV_row (by omega)) (by omega) (by omega)) rfl rfl rfl ?_
      refine G.rd rfl rfl (.vload ag36 rfl f2.vec edgeV_row (getS (swR noEdge a b i xs) noEdge (by first | omega | (simp only [List.length_cons, List.length_nil]; omega)))) rfl rfl rfl ?_
      refine G.any rfl rfl (.idxS ((a + i)) Tryz.underlying44 sz36 rfl rfl (hO.vec.isSome edgeV_row (by omega)) (by omega) (by omega)) rfl rfl rfl ?_
      refine G.ef0 rfl rfl rfl rfl ?_
      refine Ef.vput (j := (a + i)) ((swR noEdge a b i xs).getD (b + i) noEdge) sz36 rfl rfl rfl f2 edgeV_row (by omega) ?_
      intro w3_21 o3_21 h3_21
      refine ⟨fun h => absurd h (ne_true_of_eq_false (by kernel_rfl)), ?_⟩
      have L3 := L1.trans h3_21
      refine G.any rfl rfl (.idxS ((b + i)) Tryz.underlying44 sz36 rfl rfl (hO.vec.isSome edgeV_row (by omega)) (by omega) (by omega)) rfl rfl rfl ?_
      refine G.ef0 rfl rfl rfl rfl ?_
      refine Ef.vput (j := (b + i)) ((swR noEdge a b i xs).getD (a + i) noEdge) sz36 rfl rfl rfl o3_21 edgeV_row (by omega) ?_
      intro w3_23 o3_23 h3_23
      refine ⟨fun h => absurd h (ne_true_of_eq_false (by kernel_rfl)), ?_⟩
      have L4 := L3.trans h3_23
      refine G.nil ?_
      refine E.blkN ?_
      refine E.thenN ?_
      refine WC.region ?_
      refine W.any (.move rfl) rfl rfl rfl ?_
      refine W.any (.add rfl rfl (by omega)) rfl rfl rfl ?_
      refine W.any (.assign rfl) rfl rfl rfl ?_
      refine W.nil ?_
      refine E.again (i + 1) (.cons rfl (.cons rfl (.cons rfl (.cons rfl (.cons rfl (.nil _)))))) ?_ ?_
      · exact ⟨by omega, L4, by have := zl0; have := d3.size; have := h3_21.size; have := h3_23.size; omega, o3_23⟩
      · first | omega | (simp only []; omega)
    · refine WC.condN rfl (decide_eq_false c0) ?_
      refine WC.exit ?_
      refine E.thenX ?_
      refine E.thenX ?_
      refine E.blkH ?_
      refine E.end_ ?_
      refine E.ret0 rfl ?_
      exact ⟨rfl, f0_0.cast rfl (by rw [show i = q by omega]), Ll0⟩

theorem rotC_ok (a m b : Nat) {base : Nat} {A : Option Addr} {n c : Nat} {xs : List Gsp.Edge} (w : World) (hO : OVec w base 36 edgeV 9 A n c xs) (h1 : a < m) (h2 : m < b) (h3 : b ≤ n) (hn : n ≤ 1000000) : Calls Tryz.prog 113 #[.slice A n c, .int .i64 (((a : Nat) : Int)), .int .i64 (((m : Nat) : Int)), .int .i64 (((b : Nat) : Int)), .func (.func 37) #[] #[]] w fun r w' => r = .returned (.tuple #[]) ∧ ∃ zs, Rot noEdge a m b xs zs ∧ OVec w' base 36 edgeV 9 A n c zs ∧ Ch w w' (rowOf A c) := by
  have hl := hO.1
  refine enter Tryz.func113 rfl rfl ?_
  have L0 := Ch.refl w (rowOf A c)
  refine WC.seq ?_
  refine WC.region ?_
  refine W.any (.move rfl) rfl rfl rfl ?_
  refine W.any (.move rfl) rfl rfl rfl ?_
  refine W.any (.sub rfl rfl (by omega)) rfl rfl rfl ?_
  refine W.any (.assign rfl) rfl rfl rfl ?_
  refine W.nil ?_
  refine E.thenN ?_
  refine WC.seq ?_
  refine WC.region ?_
  refine W.any (.move rfl) rfl rfl rfl ?_
  refine W.any (.move rfl) rfl rfl rfl ?_
  refine W.any (.sub rfl rfl (by omega)) rfl rfl rfl ?_
  refine W.any (.assign rfl) rfl rfl rfl ?_
  refine W.nil ?_
  refine E.thenN ?_
  refine WC.seq ?_
  refine WC.block ?_
  refine WC.loop (ι := Nat × Nat × (List Gsp.Edge)) (fun ⟨i, j, ys⟩ => [(0, .slice A n c), (2, .int .i64 (((m : Nat) : Int))), (4, .func (.func 37) #[] #[]), (10, .int .i64 (((i : Nat) : Int))), (11, .int .i64 (((j : Nat) : Int)))]) (fun ⟨i, j, ys⟩ wl0 => (1 ≤ i ∧ i ≤ m) ∧ (1 ≤ j ∧ m + j ≤ n) ∧ (ys.length = n) ∧ (∀ zs, Rot noEdge (m - i) m (m + j) ys zs → Rot noEdge a m b xs zs) ∧ Ch w wl0 (rowOf A c) ∧ w.heap.size ≤ wl0.heap.size ∧ OVec wl0 base 36 edgeV 9 A n c ys) (fun ⟨i, j, ys⟩ => i + j) (m - a, b - m, xs) ?_ ?_ ?_
  · exact .cons rfl (.cons rfl (.cons rfl (.cons' rfl (int_eq (by omega)) (.cons' rfl (int_eq (by omega)) (.nil _)))))
  · exact ⟨by omega, by omega, hl, fun zs hz => by rw [show m - (m - a) = a by omega, show m + (b - m) = b by omega] at hz; exact hz, L0, Nat.le_refl _, hO⟩
  · rintro ⟨i, j, ys⟩ wl0 ⟨hi, hj, hyl, hinv, Ll0, zl0, f0_0⟩
    refine WC.seq ?_
    refine WC.seq ?_
    refine WC.region ?_
    refine W.any (.move rfl) rfl rfl rfl ?_
    refine W.any (.move rfl) rfl rfl rfl ?_
    refine W.any (.neq rfl rfl) rfl rfl rfl ?_
    refine W.nil ?_
    refine E.thenN ?_
    by_cases c0 : ((i : Nat) : Int) ≠ ((j : Nat) : Int)
    · refine WC.condY rfl (decide_eq_true c0) ?_
      refine WC.skip ?_
      refine E.thenN ?_
      refine WC.block ?_
      refine WC.seq ?_
      refine WC.region ?_
      refine W.any (.move rfl) rfl rfl rfl ?_
      refine W.any (.move rfl) rfl rfl rfl ?_
      refine W.any (.gtr rfl rfl) rfl rfl rfl ?_
      refine W.nil ?_
      refine E.thenN ?_
      by_cases c1 : ((j : Nat) : Int) < ((i : Nat) : Int)
      · refine WC.condY rfl (decide_eq_true c1) ?_
        refine WC.seq ?_
        refine WC.region ?_
        refine W.any (.move rfl) rfl rfl rfl ?_
        refine W.any (.move rfl) rfl rfl rfl ?_
        refine W.any (.move rfl) rfl rfl rfl ?_
        refine W.any (.as (.sub rfl rfl (by omega)) (int_eq (b := (((m - i) : Nat) : Int)) (by omega))) rfl rfl rfl ?_
        refine W.any (.move rfl) rfl rfl rfl ?_
        refine W.any (.move rfl) rfl rfl rfl ?_
        refine W.any (.move rfl) rfl rfl rfl ?_
        refine W.ef rfl rfl rfl ?_
        refine Ef.call go121 rfl rfl (swapR_ok (m - i) m j wl0 f0_0 (by omega) (by omega) (by omega)) ?_
        rintro _ w4_7 ⟨rfl, o4_7, h4_7⟩
        refine ⟨_, rfl, ?_⟩
        have L1 := Ll0.trans h4_7
        refine W.nil ?_
        refine E.thenN ?_
        refine WC.region ?_
        refine W.any (.move rfl) rfl rfl rfl ?_
        refine W.any (.move rfl) rfl rfl rfl ?_
        refine W.any (.as (.sub rfl rfl (by omega)) (int_eq (b := (((i - j) : Nat) : Int)) (by omega))) rfl rfl rfl ?_
        refine W.any (.assign rfl) rfl rfl rfl ?_
        refine W.nil ?_
        refine E.blkN ?_
        refine E.again ((i - j), j, (swR noEdge (m - i) m j ys)) (.cons rfl (.cons rfl (.cons rfl (.cons rfl (.cons rfl (.nil _)))))) ?_ ?_
        · exact ⟨by omega, by omega, by rw [swR_len]; exact hyl, fun zs hz => hinv zs (Rot.step1 (by omega) (by omega) (by omega) hz), L1, by have := zl0; have := h4_7.size; omega, o4_7⟩
        · first | omega | (simp only []; omega)
      · refine WC.condN rfl (decide_eq_false c1) ?_
        refine WC.seq ?_
        refine WC.region ?_
        refine W.any (.move rfl) rfl rfl rfl ?_
        refine W.any (.move rfl) rfl rfl rfl ?_
        refine W.any (.move rfl) rfl rfl rfl ?_
        refine W.any (.as (.sub rfl rfl (by omega)) (int_eq (b := (((m - i) : Nat) : Int)) (by omega))) rfl rfl rfl ?_
        refine W.any (.move rfl) rfl rfl rfl ?_
        refine W.any (.move rfl) rfl rfl rfl ?_
        refine W.any (.add rfl rfl (by omega)) rfl rfl rfl ?_
        refine W.any (.move rfl) rfl rfl rfl ?_
        refine W.any (.as (.sub rfl rfl (by omega)) (int_eq (b := (((m + j - i) : Nat) : Int)) (by omega))) rfl rfl rfl ?_
        refine W.any (.move rfl) rfl rfl rfl ?_
        refine W.any (.move rfl) rfl rfl rfl ?_
        refine W.ef rfl rfl rfl ?_
        refine Ef.call go121 rfl rfl (swapR_ok (m - i) (m + j - i) i wl0 f0_0 (by omega) (by omega) (by omega)) ?_
        rintro _ w6_11 ⟨rfl, o6_11, h6_11⟩
        refine ⟨_, rfl, ?_⟩
        have L2 := Ll0.trans h6_11
        refine W.nil ?_
        refine E.thenN ?_
        refine WC.region ?_
        refine W.any (.move rfl) rfl rfl rfl ?_
        refine W.any (.move rfl) rfl rfl rfl ?_
        refine W.any (.as (.sub rfl rfl (by omega)) (int_eq (b := (((j - i) : Nat) : Int)) (by omega))) rfl rfl rfl ?_
        refine W.any (.assign rfl) rfl rfl rfl ?_
        refine W.nil ?_
        refine E.blkN ?_
        refine E.again (i, (j - i), (swR noEdge (m - i) (m + j - i) i ys)) (.cons rfl (.cons rfl (.cons rfl (.cons rfl (.cons rfl (.nil _)))))) ?_ ?_
        · exact ⟨by omega, by omega, by rw [swR_len]; exact hyl, fun zs hz => hinv zs (Rot.step2 (by omega) (by omega) (by omega) hz), L2, by have := zl0; have := h6_11.size; omega, o6_11⟩
        · first | omega | (simp only []; omega)
    · refine WC.condN rfl (decide_eq_false c0) ?_
      refine WC.exit ?_
      refine E.thenX ?_
      refine E.thenX ?_
      refine E.blkH ?_
      refine E.thenN ?_
      refine WC.region ?_
      refine W.any (.move rfl) rfl rfl rfl ?_
      refine W.any (.move rfl) rfl rfl rfl ?_
      refine W.any (.move rfl) rfl rfl rfl ?_
      refine W.any (.as (.sub rfl rfl (by omega)) (int_eq (b := (((m - i) : Nat) : Int)) (by omega))) rfl rfl rfl ?_
      refine W.any (.move rfl) rfl rfl rfl ?_
      refine W.any (.move rfl) rfl rfl rfl ?_
      refine W.any (.move rfl) rfl rfl rfl ?_
      refine W.ef rfl rfl rfl ?_
      refine Ef.call go121 rfl rfl (swapR_ok (m - i) m i wl0 f0_0 (by omega) (by omega) (by omega)) ?_
      rintro _ w8_7 ⟨rfl, o8_7, h8_7⟩
      refine ⟨_, rfl, ?_⟩
      have L3 := Ll0.trans h8_7
      refine W.nil ?_
      refine E.end_ ?_
      refine E.ret0 rfl ?_
      exact ⟨rfl, _, hinv _ (by rw [show j = i by omega]; exact Rot.last (by omega) (by omega)), o8_7, L3⟩

theorem symM_step (a m b : Nat) {base : Nat} {A : Option Addr} {n c : Nat} {xs : List Gsp.Edge} (w : World) (hO : OVec w base 36 edgeV 9 A n c xs) (h1 : a < m) (h2 : m < b) (h3 : b ≤ n) (hn : n ≤ 1000000) (su : Srt ltE noEdge a m xs) (sv : Srt ltE noEdge m b xs) (ih : ∀ (a' m' b' : Nat) (ys : List Gsp.Edge) (w1 : World), b' - a' < b - a → OVec w1 base 36 edgeV 9 A n c ys → a' < m' → m' < b' → b' ≤ n → Srt ltE noEdge a' m' ys → Srt ltE noEdge m' b' ys → Calls Tryz.prog 92 #[.slice A n c, .int .i64 ((a' : Nat) : Int), .int .i64 ((m' : Nat) : Int), .int .i64 ((b' : Nat) : Int), .func (.func 37) #[] #[]] w1 (fun r w' => r = .returned (.tuple #[]) ∧ ∃ zs, Part ltE noEdge a' b' ys zs ∧ OVec w' base 36 edgeV 9 A n c zs ∧ Ch w1 w' (rowOf A c))) : Calls Tryz.prog 92 #[.slice A n c, .int .i64 (((a : Nat) : Int)), .int .i64 (((m : Nat) : Int)), .int .i64 (((b : Nat) : Int)), .func (.func 37) #[] #[]] w fun r w' => r = .returned (.tuple #[]) ∧ ∃ zs, Part ltE noEdge a b xs zs ∧ OVec w' base 36 edgeV 9 A n c zs ∧ Ch w w' (rowOf A c) := by
  have hl := hO.1
  refine enter Tryz.func92 rfl rfl ?_
  have L0 := Ch.refl w (rowOf A c)
  refine WC.seq ?_
  refine WC.seq ?_
  refine WC.region ?_
  refine W.any (.move rfl) rfl rfl rfl ?_
  refine W.any (.move rfl) rfl rfl rfl ?_
  refine W.any (.sub rfl rfl (by omega)) rfl rfl rfl ?_
  refine W.any (.eql rfl rfl) rfl rfl rfl ?_
  refine W.nil ?_
  refine E.thenN ?_
  by_cases c0 : (((m : Nat) : Int) - ((a : Nat) : Int)) = 1
  · refine WC.condY rfl (decide_eq_true c0) ?_
    refine WC.seq ?_
    refine WC.region ?_
    refine W.any (.move rfl) rfl rfl rfl ?_
    refine W.any (.assign rfl) rfl rfl rfl ?_
    refine W.nil ?_
    refine E.thenN ?_
    refine WC.seq ?_
    refine WC.region ?_
    refine W.any (.move rfl) rfl rfl rfl ?_
    refine W.any (.assign rfl) rfl rfl rfl ?_
    refine W.nil ?_
    refine E.thenN ?_
    refine WC.seq ?_
    refine WC.block ?_
    refine WC.loop (ι := Nat × Nat) (fun ⟨i, j⟩ => [(0, .slice A n c), (1, .int .i64 (((a : Nat) : Int))), (4, .func (.func 37) #[] #[]), (10, .int .i64 (((i : Nat) : Int))), (11, .int .i64 (((j : Nat) : Int)))]) (fun ⟨i, j⟩ wl0 => (m ≤ i ∧ i ≤ j ∧ j ≤ b) ∧ (∀ k, m ≤ k → k < i → ltE (xs.getD k noEdge) (xs.getD a noEdge) = true) ∧ (∀ k, j ≤ k → k < b → ltE (xs.getD k noEdge) (xs.getD a noEdge) = false) ∧ Ch w wl0 (rowOf A c) ∧ w.heap.size ≤ wl0.heap.size ∧ OVec wl0 base 36 edgeV 9 A n c xs) (fun ⟨i, j⟩ => j - i) (m, b) ?_ ?_ ?_
    · exact .cons rfl (.cons rfl (.cons rfl (.cons rfl (.cons rfl (.nil _)))))
    · exact ⟨by omega, fun k k1 k2 => by omega, fun k k1 k2 => by omega, L0, Nat.le_refl _, hO⟩
    · rintro ⟨i, j⟩ wl0 ⟨hij, hlo, hhi, Ll0, zl0, f0_0⟩
      refine WC.seq ?_
      refine WC.seq ?_
      refine WC.region ?_
      refine W.any (.move rfl) rfl rfl rfl ?_
      refine W.any (.move rfl) rfl rfl rfl ?_
      refine W.any (.lss rfl rfl) rfl rfl rfl ?_
      refine W.nil ?_
      refine E.thenN ?_
      by_cases c1 : ((i : Nat) : Int) < ((j : Nat) : Int)
      · refine WC.condY rfl (decide_eq_true c1) ?_
        refine WC.skip ?_
        refine E.thenN ?_
        refine WC.block ?_
        refine WC.seq ?_
        refine WC.region ?_
        refine W.any (.move rfl) rfl rfl rfl ?_
        refine W.any (.move rfl) rfl rfl rfl ?_
        refine W.any (.add rfl rfl (by omega)) rfl rfl rfl ?_
        refine W.rd (.idI (isS Tryz.underlying3) Tryz.underlying130 rfl (IntWalk.u64_in _ (by omega))) rfl rfl rfl ?_
        refine W.any (.shrE (i + j) 1 ((i + j) / 2) rfl (by first | rfl | omega) rfl rfl (by decide) rfl) rfl rfl rfl ?_
        refine W.rd (.idI (isS Tryz.underlying130) Tryz.underlying3 rfl (IntWalk.i64_in _ (by omega))) rfl rfl rfl ?_
        refine W.any (.assign rfl) rfl rfl rfl ?_
        refine W.nil ?_
        refine E.thenN ?_
        refine WC.seq ?_
        refine WC.draw [0, 1, 2, 3, 4, 5, 6, 7, 8, 9, 10] mixed (by kernel_rfl) ?_
        intro w5 d5
        have L1 := Ll0.trans (d5.ch _)
        refine G.any rfl rfl (.move rfl) rfl rfl rfl ?_
        refine G.any rfl rfl (.move rfl) rfl rfl rfl ?_
        refine G.any rfl rfl (.move rfl) rfl rfl rfl ?_
        refine G.any rfl rfl (.idxS (((i + j) / 2)) Tryz.underlying44 sz36 rfl rfl (hO.vec.isSome edgeV_row (by omega)) (rfl) (by omega)) rfl rfl rfl ?_
        have f2 := (f0_0.le d5)
        refine G.rd rfl rfl (.vload ag36 rfl f2.vec edgeV_row (getS xs noEdge (by first | omega | (simp only [List.length_cons, List.length_nil]; omega)))) rfl rfl rfl ?_
        refine G.any rfl rfl (.move rfl) rfl rfl rfl ?_
        refine G.any rfl rfl (.move rfl) rfl rfl rfl ?_
        refine G.any rfl rfl (.idxS (a) Tryz.underlying44 sz36 rfl rfl (hO.vec.isSome edgeV_row (by omega)) (rfl) (by omega)) rfl rfl rfl ?_
        refine G.rd rfl rfl (.vload ag36 rfl f2.vec edgeV_row (getS xs noEdge (by first | omega | (simp only [List.length_cons, List.length_nil]; omega)))) rfl rfl rfl ?_
        refine G.ef rfl rfl rfl rfl rfl ?_
        refine Ef.call go37 rfl rfl (order_ok (xs.getD ((i + j) / 2) noEdge) (xs.getD a noEdge) w5) ?_
        rintro _ w5_9 ⟨rfl, h5_9⟩
        refine ⟨_, rfl, ?_⟩
        refine ⟨fun _ => h5_9, ?_⟩
        have L3 := L1.trans (h5_9.ch _)
        refine G.any rfl rfl (.lss rfl rfl) rfl rfl rfl ?_
        refine G.nil ?_
        refine E.thenN ?_
        by_cases c2 : (ordE (xs.getD ((i + j) / 2) noEdge) (xs.getD a noEdge)) < 0
        · refine WC.condY rfl (decide_eq_true c2) ?_
          refine WC.region ?_
          refine W.any (.move rfl) rfl rfl rfl ?_
          refine W.any (.add rfl rfl (by omega)) rfl rfl rfl ?_
          refine W.any (.assign rfl) rfl rfl rfl ?_
          refine W.nil ?_
          refine E.blkN ?_
          have f4 := (f2.le h5_9)
          refine E.again ((i + j) / 2 + 1, j) (.cons rfl (.cons rfl (.cons rfl (.cons rfl (.cons rfl (.nil _)))))) ?_ ?_
          · exact ⟨by omega, fun k k1 k2 => mono1 swoE sv k1 (by omega) (by omega) (decide_eq_true c2), hhi, L3, by have := zl0; have := d5.size; have := h5_9.size; omega, f4⟩
          · first | omega | (simp only []; omega)
        · refine WC.condN rfl (decide_eq_false c2) ?_
          refine WC.region ?_
          refine W.any (.move rfl) rfl rfl rfl ?_
          refine W.any (.assign rfl) rfl rfl rfl ?_
          refine W.nil ?_
          refine E.blkN ?_
          have f5 := (f2.le h5_9)
          refine E.again (i, (i + j) / 2) (.cons rfl (.cons rfl (.cons rfl (.cons rfl (.cons rfl (.nil _)))))) ?_ ?_
          · exact ⟨by omega, hlo, fun k k1 k2 => mono2 swoE sv (by omega) k1 k2 (decide_eq_false c2), L3, by have := zl0; have := d5.size; have := h5_9.size; omega, f5⟩
          · first | omega | (simp only []; omega)
      · refine WC.condN rfl (decide_eq_false c1) ?_
        refine WC.exit ?_
        refine E.thenX ?_
        refine E.thenX ?_
        refine E.blkH ?_
        refine E.thenN ?_
        refine WC.seq ?_
        refine WC.seq ?_
        refine WC.region ?_
        refine W.any (.move rfl) rfl rfl rfl ?_
        refine W.any (.assign rfl) rfl rfl rfl ?_
        refine W.nil ?_
        refine E.thenN ?_
        refine WC.block ?_
        refine WC.loop (ι := Nat) (fun k => [(0, .slice A n c), (10, .int .i64 (((i : Nat) : Int))), (13, .int .i64 (((k : Nat) : Int)))]) (fun k wl1 => (a ≤ k ∧ k + 1 ≤ i) ∧ Ch w wl1 (rowOf A c) ∧ wl0.heap.size ≤ wl1.heap.size ∧ OVec wl1 base 36 edgeV 9 A n c (goUp noEdge a (k - a) xs)) (fun k => i - k) a ?_ ?_ ?_
        · exact .cons rfl (.cons rfl (.cons rfl (.nil _)))
        · exact ⟨by omega, Ll0, Nat.le_refl _, (f0_0.cast rfl (by rw [Nat.sub_self]; rfl))⟩
        · rintro k wl1 ⟨hk, Ll1, zl1, f1_0⟩
          have hgl := goUp_len noEdge a xs (k - a)
          refine WC.seq ?_
          refine WC.seq ?_
          refine WC.region ?_
          refine W.any (.move rfl) rfl rfl rfl ?_
          refine W.any (.move rfl) rfl rfl rfl ?_
          refine W.any (.sub rfl rfl (by omega)) rfl rfl rfl ?_
          refine W.any (.lss rfl rfl) rfl rfl rfl ?_
          refine W.nil ?_
          refine E.thenN ?_
          by_cases c3 : ((k : Nat) : Int) < (((i : Nat) : Int) - 1)
          · refine WC.condY rfl (decide_eq_true c3) ?_
            refine WC.skip ?_
            refine E.thenN ?_
            refine WC.seq ?_
            refine WC.block ?_
            refine WC.draw [0, 1, 2, 3, 4, 5, 6, 7, 8, 9, 10, 11, 12, 13, 14, 15, 16, 17] mixed (by kernel_rfl) ?_
            intro w11 d11
            have L6 := Ll1.trans (d11.ch _)
            refine G.any rfl rfl (.move rfl) rfl rfl rfl ?_
            refine G.any rfl rfl (.move rfl) rfl rfl rfl ?_
            refine G.any rfl rfl (.move rfl) rfl rfl rfl ?_
            refine G.any rfl rfl (.move rfl) rfl rfl rfl ?_
            refine G.any rfl rfl (.add rfl rfl (by omega)) rfl rfl rfl ?_
            refine G.any rfl rfl (.move rfl) rfl rfl rfl ?_
            refine G.any rfl rfl (.move rfl) rfl rfl rfl ?_
            refine G.any rfl rfl (.add rfl rfl (by omega)) rfl rfl rfl ?_
            refine G.any rfl rfl (.idxS ((k + 1)) Tryz.underlying44 sz36 rfl rfl (hO.vec.isSome edgeV_row (by omega)) (by omega) (by omega)) rfl rfl rfl ?_
            have f7 := (f1_0.le d11)
            refine G.rd rfl rfl (.vload ag36 rfl f7.vec edgeV_row (getS (goUp noEdge a (k - a) xs) noEdge (by first | omega | (simp only [List.length_cons, List.length_nil]; omega)))) rfl rfl rfl ?_
            refine G.any rfl rfl (.move rfl) rfl rfl rfl ?_
            refine G.any rfl rfl (.move rfl) rfl rfl rfl ?_
            refine G.any rfl rfl (.idxS (k) Tryz.underlying44 sz36 rfl rfl (hO.vec.isSome edgeV_row (by omega)) (rfl) (by omega)) rfl rfl rfl ?_
            refine G.rd rfl rfl (.vload ag36 rfl f7.vec edgeV_row (getS (goUp noEdge a (k - a) xs) noEdge (by first | omega | (simp only [List.length_cons, List.length_nil]; omega)))) rfl rfl rfl ?_
            refine G.any rfl rfl (.idxS (k) Tryz.underlying44 sz36 rfl rfl (hO.vec.isSome edgeV_row (by omega)) (rfl) (by omega)) rfl rfl rfl ?_
            refine G.ef0 rfl rfl rfl rfl ?_
            refine Ef.vput (j := k) ((goUp noEdge a (k - a) xs).getD (k + 1) noEdge) sz36 rfl rfl rfl f7 edgeV_row (by omega) ?_
            intro w11_15 o11_15 h11_15
            refine ⟨fun h => absurd h (ne_true_of_eq_false (by kernel_rfl)), ?_⟩
            have L8 := L6.trans h11_15
            refine G.any rfl rfl (.idxS ((k + 1)) Tryz.underlying44 sz36 rfl rfl (hO.vec.isSome edgeV_row (by omega)) (by omega) (by omega)) rfl rfl rfl ?_
            refine G.ef0 rfl rfl rfl rfl ?_
            refine Ef.vput (j := (k + 1)) ((goUp noEdge a (k - a) xs).getD k noEdge) sz36 rfl rfl rfl o11_15 edgeV_row (by omega) ?_
            intro w11_17 o11_17 h11_17
            refine ⟨fun h => absurd h (ne_true_of_eq_false (by kernel_rfl)), ?_⟩
            have L9 := L8.trans h11_17
            refine G.nil ?_
            refine E.blkN ?_
            refine E.thenN ?_
            refine WC.region ?_
            refine W.any (.move rfl) rfl rfl rfl ?_
            refine W.any (.add rfl rfl (by omega)) rfl rfl rfl ?_
            refine W.any (.assign rfl) rfl rfl rfl ?_
            refine W.nil ?_
            refine E.again (k + 1) (.cons rfl (.cons rfl (.cons rfl (.nil _)))) ?_ ?_
            · exact ⟨by omega, L9, by have := zl1; have := d11.size; have := h11_15.size; have := h11_17.size; omega, (o11_17.cast rfl (by rw [show k + 1 - a = (k - a) + 1 by omega, goUp, show a + (k - a) = k by omega]; rfl))⟩
            · first | omega | (simp only []; omega)
          · refine WC.condN rfl (decide_eq_false c3) ?_
            refine WC.exit ?_
            refine E.thenX ?_
            refine E.thenX ?_
            refine E.blkH ?_
            refine E.thenN ?_
            refine WC.ret ?_
            refine E.thenR ?_
            refine E.ret0 rfl ?_
            have hm : m = a + 1 := (by omega)
            subst hm
            exact ⟨rfl, _, (by have := ins_front swoE (xs := xs) (d := noEdge) (a := a) (b := b) (i := i) (by omega) (by omega) (by omega) sv hlo (fun q q1 q2 => hhi q (by omega) q2); rw [show i - (a + 1) = k - a by omega] at this; exact this), f1_0, Ll1⟩
  · refine WC.condN rfl (decide_eq_false c0) ?_
    refine WC.skip ?_
    refine E.thenN ?_
    refine WC.seq ?_
    refine WC.seq ?_
    refine WC.region ?_
    refine W.any (.move rfl) rfl rfl rfl ?_
    refine W.any (.move rfl) rfl rfl rfl ?_
    refine W.any (.sub rfl rfl (by omega)) rfl rfl rfl ?_
    refine W.any (.eql rfl rfl) rfl rfl rfl ?_
    refine W.nil ?_
    refine E.thenN ?_
    by_cases c4 : (((b : Nat) : Int) - ((m : Nat) : Int)) = 1
    · refine WC.condY rfl (decide_eq_true c4) ?_
      refine WC.seq ?_
      refine WC.region ?_
      refine W.any (.move rfl) rfl rfl rfl ?_
      refine W.any (.assign rfl) rfl rfl rfl ?_
      refine W.nil ?_
      refine E.thenN ?_
      refine WC.seq ?_
      refine WC.region ?_
      refine W.any (.move rfl) rfl rfl rfl ?_
      refine W.any (.assign rfl) rfl rfl rfl ?_
      refine W.nil ?_
      refine E.thenN ?_
      refine WC.seq ?_
      refine WC.block ?_
      refine WC.loop (ι := Nat × Nat) (fun ⟨i2, j2⟩ => [(0, .slice A n c), (2, .int .i64 (((m : Nat) : Int))), (4, .func (.func 37) #[] #[]), (14, .int .i64 (((i2 : Nat) : Int))), (15, .int .i64 (((j2 : Nat) : Int)))]) (fun ⟨i2, j2⟩ wl2 => (a ≤ i2 ∧ i2 ≤ j2 ∧ j2 ≤ m) ∧ (∀ k, a ≤ k → k < i2 → ltE (xs.getD m noEdge) (xs.getD k noEdge) = false) ∧ (∀ k, j2 ≤ k → k < m → ltE (xs.getD m noEdge) (xs.getD k noEdge) = true) ∧ Ch w wl2 (rowOf A c) ∧ w.heap.size ≤ wl2.heap.size ∧ OVec wl2 base 36 edgeV 9 A n c xs) (fun ⟨i2, j2⟩ => j2 - i2) (a, m) ?_ ?_ ?_
      · exact .cons rfl (.cons rfl (.cons rfl (.cons rfl (.cons rfl (.nil _)))))
      · exact ⟨by omega, fun k k1 k2 => by omega, fun k k1 k2 => by omega, L0, Nat.le_refl _, hO⟩
      · rintro ⟨i2, j2⟩ wl2 ⟨hij2, hlo2, hhi2, Ll2, zl2, f2_0⟩
        refine WC.seq ?_
        refine WC.seq ?_
        refine WC.region ?_
        refine W.any (.move rfl) rfl rfl rfl ?_
        refine W.any (.move rfl) rfl rfl rfl ?_
        refine W.any (.lss rfl rfl) rfl rfl rfl ?_
        refine W.nil ?_
        refine E.thenN ?_
        by_cases c5 : ((i2 : Nat) : Int) < ((j2 : Nat) : Int)
        · refine WC.condY rfl (decide_eq_true c5) ?_
          refine WC.skip ?_
          refine E.thenN ?_
          refine WC.block ?_
          refine WC.seq ?_
          refine WC.region ?_
          refine W.any (.move rfl) rfl rfl rfl ?_
          refine W.any (.move rfl) rfl rfl rfl ?_
          refine W.any (.add rfl rfl (by omega)) rfl rfl rfl ?_
          refine W.rd (.idI (isS Tryz.underlying3) Tryz.underlying130 rfl (IntWalk.u64_in _ (by omega))) rfl rfl rfl ?_
          refine W.any (.shrE (i2 + j2) 1 ((i2 + j2) / 2) rfl (by first | rfl | omega) rfl rfl (by decide) rfl) rfl rfl rfl ?_
          refine W.rd (.idI (isS Tryz.underlying130) Tryz.underlying3 rfl (IntWalk.i64_in _ (by omega))) rfl rfl rfl ?_
          refine W.any (.assign rfl) rfl rfl rfl ?_
          refine W.nil ?_
          refine E.thenN ?_
          refine WC.seq ?_
          refine WC.draw [0, 1, 2, 3, 4, 5, 6, 7, 8, 9, 10, 11] mixed (by kernel_rfl) ?_
          intro w17 d17
          have L10 := Ll2.trans (d17.ch _)
          refine G.any rfl rfl (.move rfl) rfl rfl rfl ?_
          refine G.any rfl rfl (.move rfl) rfl rfl rfl ?_
          refine G.any rfl rfl (.move rfl) rfl rfl rfl ?_
          refine G.any rfl rfl (.idxS (m) Tryz.underlying44 sz36 rfl rfl (hO.vec.isSome edgeV_row (by omega)) (rfl) (by omega)) rfl rfl rfl ?_
          have f11 := (f2_0.le d17)
          refine G.rd rfl rfl (.vload ag36 rfl f11.vec edgeV_row (getS xs noEdge (by first | omega | (simp only [List.length_cons, List.length_nil]; omega)))) rfl rfl rfl ?_
          refine G.any rfl rfl (.move rfl) rfl rfl rfl ?_
          refine G.any rfl rfl (.move rfl) rfl rfl rfl ?_
          refine G.any rfl rfl (.idxS (((i2 + j2) / 2)) Tryz.underlying44 sz36 rfl rfl (hO.vec.isSome edgeV_row (by omega)) (rfl) (by omega)) rfl rfl rfl ?_
          refine G.rd rfl rfl (.vload ag36 rfl f11.vec edgeV_row (getS xs noEdge (by first | omega | (simp only [List.length_cons, List.length_nil]; omega)))) rfl rfl rfl ?_
          refine G.ef rfl rfl rfl rfl rfl ?_
          refine Ef.call go37 rfl rfl (order_ok (xs.getD m noEdge) (xs.getD ((i2 + j2) / 2) noEdge) w17) ?_
          rintro _ w17_9 ⟨rfl, h17_9⟩
          refine ⟨_, rfl, ?_⟩
          refine ⟨fun _ => h17_9, ?_⟩
          have L12 := L10.trans (h17_9.ch _)
          refine G.any rfl rfl (.lss rfl rfl) rfl rfl rfl ?_
          refine G.any rfl rfl (.not rfl) rfl rfl rfl ?_
          refine G.nil ?_
          refine E.thenN ?_
          by_cases c6 : (ordE (xs.getD m noEdge) (xs.getD ((i2 + j2) / 2) noEdge)) < 0
          · refine WC.condN rfl (congrArg not (decide_eq_true c6)) ?_
            refine WC.region ?_
            refine W.any (.move rfl) rfl rfl rfl ?_
            refine W.any (.assign rfl) rfl rfl rfl ?_
            refine W.nil ?_
            refine E.blkN ?_
            have f13 := (f11.le h17_9)
            refine E.again (i2, (i2 + j2) / 2) (.cons rfl (.cons rfl (.cons rfl (.cons rfl (.cons rfl (.nil _)))))) ?_ ?_
            · exact ⟨by omega, hlo2, fun k k1 k2 => mono4 swoE su (by omega) k1 k2 (decide_eq_true c6), L12, by have := zl2; have := d17.size; have := h17_9.size; omega, f13⟩
            · first | omega | (simp only []; omega)
          · refine WC.condY rfl (congrArg not (decide_eq_false c6)) ?_
            refine WC.region ?_
            refine W.any (.move rfl) rfl rfl rfl ?_
            refine W.any (.add rfl rfl (by omega)) rfl rfl rfl ?_
            refine W.any (.assign rfl) rfl rfl rfl ?_
            refine W.nil ?_
            refine E.blkN ?_
            have f14 := (f11.le h17_9)
            refine E.again ((i2 + j2) / 2 + 1, j2) (.cons rfl (.cons rfl (.cons rfl (.cons rfl (.cons rfl (.nil _)))))) ?_ ?_
            · exact ⟨by omega, fun k k1 k2 => mono3 swoE su k1 (by omega) (by omega) (decide_eq_false c6), hhi2, L12, by have := zl2; have := d17.size; have := h17_9.size; omega, f14⟩
            · first | omega | (simp only []; omega)
        · refine WC.condN rfl (decide_eq_false c5) ?_
          refine WC.exit ?_
          refine E.thenX ?_
          refine E.thenX ?_
          refine E.blkH ?_
          refine E.thenN ?_
          refine WC.seq ?_
          refine WC.seq ?_
          refine WC.region ?_
          refine W.any (.move rfl) rfl rfl rfl ?_
          refine W.any (.assign rfl) rfl rfl rfl ?_
          refine W.nil ?_
          refine E.thenN ?_
          refine WC.block ?_
          refine WC.loop (ι := Nat) (fun k2 => [(0, .slice A n c), (14, .int .i64 (((i2 : Nat) : Int))), (17, .int .i64 (((k2 : Nat) : Int)))]) (fun k2 wl3 => (i2 ≤ k2 ∧ k2 ≤ m) ∧ Ch w wl3 (rowOf A c) ∧ wl2.heap.size ≤ wl3.heap.size ∧ OVec wl3 base 36 edgeV 9 A n c (goDn noEdge m (m - k2) xs)) (fun k2 => k2) m ?_ ?_ ?_
          · exact .cons rfl (.cons rfl (.cons rfl (.nil _)))
          · exact ⟨by omega, Ll2, Nat.le_refl _, (f2_0.cast rfl (by rw [Nat.sub_self]; rfl))⟩
          · rintro k2 wl3 ⟨hk2, Ll3, zl3, f3_0⟩
            have hgl := goDn_len noEdge m xs (m - k2)
            refine WC.seq ?_
            refine WC.seq ?_
            refine WC.region ?_
            refine W.any (.move rfl) rfl rfl rfl ?_
            refine W.any (.move rfl) rfl rfl rfl ?_
            refine W.any (.gtr rfl rfl) rfl rfl rfl ?_
            refine W.nil ?_
            refine E.thenN ?_
            by_cases c7 : ((i2 : Nat) : Int) < ((k2 : Nat) : Int)
            · refine WC.condY rfl (decide_eq_true c7) ?_
              refine WC.skip ?_
              refine E.thenN ?_
              refine WC.seq ?_
              refine WC.block ?_
              refine WC.draw [0, 1, 2, 3, 4, 5, 6, 7, 8, 9, 10, 11, 12, 13, 14, 15, 16, 17] mixed (by kernel_rfl) ?_
              intro w23 d23
              have L15 := Ll3.trans (d23.ch _)
              refine G.any rfl rfl (.move rfl) rfl rfl rfl ?_
              refine G.any rfl rfl (.move rfl) rfl rfl rfl ?_
              refine G.any rfl rfl (.move rfl) rfl rfl rfl ?_
              refine G.any rfl rfl (.move rfl) rfl rfl rfl ?_
              refine G.any rfl rfl (.sub rfl rfl (by omega)) rfl rfl rfl ?_
              refine G.any rfl rfl (.move rfl) rfl rfl rfl ?_
              refine G.any rfl rfl (.move rfl) rfl rfl rfl ?_
              refine G.any rfl rfl (.sub rfl rfl (by omega)) rfl rfl rfl ?_
              refine G.any rfl rfl (.idxS ((k2 - 1)) Tryz.underlying44 sz36 rfl rfl (hO.vec.isSome edgeV_row (by omega)) (by omega) (by omega)) rfl rfl rfl ?_
              have f16 := (f3_0.le d23)
              refine G.rd rfl rfl (.vload ag36 rfl f16.vec edgeV_row (getS (goDn noEdge m (m - k2) xs) noEdge (by first | omega | (simp only [List.length_cons, List.length_nil]; omega)))) rfl rfl rfl ?_
              refine G.any rfl rfl (.move rfl) rfl rfl rfl ?_
              refine G.any rfl rfl (.move rfl) rfl rfl rfl ?_
              refine G.any rfl rfl (.idxS (k2) Tryz.underlying44 sz36 rfl rfl (hO.vec.isSome edgeV_row (by omega)) (rfl) (by omega)) rfl rfl rfl ?_
              refine G.rd rfl rfl (.vload ag36 rfl f16.vec edgeV_row (getS (goDn noEdge m (m - k2) xs) noEdge (by first | omega | (simp only [List.length_cons, List.length_nil]; omega)))) rfl rfl rfl ?_
              refine G.any rfl rfl (.idxS (k2) Tryz.underlying44 sz36 rfl rfl (hO.vec.isSome edgeV_row (by omega)) (rfl) (by omega)) rfl rfl rfl ?_
              refine G.ef0 rfl rfl rfl rfl ?_
              refine Ef.vput (j := k2) ((goDn noEdge m (m - k2) xs).getD (k2 - 1) noEdge) sz36 rfl rfl rfl f16 edgeV_row (by omega) ?_
              intro w23_15 o23_15 h23_15
              refine ⟨fun h => absurd h (ne_true_of_eq_false (by kernel_rfl)), ?_⟩
              have L17 := L15.trans h23_15
              refine G.any rfl rfl (.idxS ((k2 - 1)) Tryz.underlying44 sz36 rfl rfl (hO.vec.isSome edgeV_row (by omega)) (by omega) (by omega)) rfl rfl rfl ?_
              refine G.ef0 rfl rfl rfl rfl ?_
              refine Ef.vput (j := (k2 - 1)) ((goDn noEdge m (m - k2) xs).getD k2 noEdge) sz36 rfl rfl rfl o23_15 edgeV_row (by omega) ?_
              intro w23_17 o23_17 h23_17
              refine ⟨fun h => absurd h (ne_true_of_eq_false (by kernel_rfl)), ?_⟩
              have L18 := L17.trans h23_17
              refine G.nil ?_
              refine E.blkN ?_
              refine E.thenN ?_
              refine WC.region ?_
              refine W.any (.move rfl) rfl rfl rfl ?_
              refine W.any (.sub rfl rfl (by omega)) rfl rfl rfl ?_
              refine W.any (.assign rfl) rfl rfl rfl ?_
              refine W.nil ?_
              refine E.again (k2 - 1) (.cons rfl (.cons rfl (.cons' rfl (int_eq (by omega)) (.nil _)))) ?_ ?_
              · exact ⟨by omega, L18, by have := zl3; have := d23.size; have := h23_15.size; have := h23_17.size; omega, (o23_17.cast rfl (by rw [show m - (k2 - 1) = (m - k2) + 1 by omega, goDn, show m - (m - k2) = k2 by omega]; rfl))⟩
              · first | omega | (simp only []; omega)
            · refine WC.condN rfl (decide_eq_false c7) ?_
              refine WC.exit ?_
              refine E.thenX ?_
              refine E.thenX ?_
              refine E.blkH ?_
              refine E.thenN ?_
              refine WC.ret ?_
              refine E.thenR ?_
              refine E.ret0 rfl ?_
              have hm : b = m + 1 := (by omega)
              subst hm
              exact ⟨rfl, _, (by have := ins_back swoE (xs := xs) (d := noEdge) (a := a) (m := m) (i := i2) (by omega) (by omega) (by omega) su hlo2 (fun q q1 q2 => hhi2 q (by omega) q2); rw [show m - i2 = m - k2 by omega] at this; exact this), f3_0, Ll3⟩
    · refine WC.condN rfl (decide_eq_false c4) ?_
      refine WC.skip ?_
      refine E.thenN ?_
      refine WC.seq ?_
      refine WC.region ?_
      refine W.any (.move rfl) rfl rfl rfl ?_
      refine W.any (.move rfl) rfl rfl rfl ?_
      refine W.any (.add rfl rfl (by omega)) rfl rfl rfl ?_
      refine W.rd (.idI (isS Tryz.underlying3) Tryz.underlying130 rfl (IntWalk.u64_in _ (by omega))) rfl rfl rfl ?_
      refine W.any (.shrE (a + b) 1 ((a + b) / 2) rfl (by first | rfl | omega) rfl rfl (by decide) rfl) rfl rfl rfl ?_
      refine W.rd (.idI (isS Tryz.underlying130) Tryz.underlying3 rfl (IntWalk.i64_in _ (by omega))) rfl rfl rfl ?_
      refine W.any (.assign rfl) rfl rfl rfl ?_
      refine W.nil ?_
      refine E.thenN ?_
      refine WC.seq ?_
      refine WC.region ?_
      refine W.any (.move rfl) rfl rfl rfl ?_
      refine W.any (.move rfl) rfl rfl rfl ?_
      refine W.any (.add rfl rfl (by omega)) rfl rfl rfl ?_
      refine W.any (.assign rfl) rfl rfl rfl ?_
      refine W.nil ?_
      refine E.thenN ?_
      refine WC.seq ?_
      refine WC.region ?_
      refine W.any (.assign rfl) rfl rfl rfl ?_
      refine W.any (.assign rfl) rfl rfl rfl ?_
      refine W.nil ?_
      refine E.thenN ?_
      refine WC.cut (ι := Nat × Nat) (fun ⟨s0, r0⟩ => [(0, .slice A n c), (1, .int .i64 (((a : Nat) : Int))), (2, .int .i64 (((m : Nat) : Int))), (3, .int .i64 (((b : Nat) : Int))), (4, .func (.func 37) #[] #[]), (18, .int .i64 (((((a + b) / 2) : Nat) : Int))), (19, .int .i64 ((((((a + b) / 2) : Nat) : Int) + ((m : Nat) : Int)))), (20, .int .i64 (((s0 : Nat) : Int))), (21, .int .i64 (((r0 : Nat) : Int)))]) (fun ⟨s0, r0⟩ wc32 => ((((a + b) / 2) < m ∧ s0 = ((a + b) / 2) + m - b ∧ r0 = ((a + b) / 2)) ∨ (m ≤ ((a + b) / 2) ∧ s0 = a ∧ r0 = m)) ∧ Ch w wc32 (rowOf A c) ∧ w.heap.size ≤ wc32.heap.size ∧ OVec wc32 base 36 edgeV 9 A n c xs) ?_ ?_
      · refine WC.seq ?_
        refine WC.region ?_
        refine W.any (.move rfl) rfl rfl rfl ?_
        refine W.any (.move rfl) rfl rfl rfl ?_
        refine W.any (.gtr rfl rfl) rfl rfl rfl ?_
        refine W.nil ?_
        refine E.thenN ?_
        by_cases c8 : ((((a + b) / 2) : Nat) : Int) < ((m : Nat) : Int)
        · refine WC.condY rfl (decide_eq_true c8) ?_
          refine WC.seq ?_
          refine WC.region ?_
          refine W.any (.move rfl) rfl rfl rfl ?_
          refine W.any (.move rfl) rfl rfl rfl ?_
          refine W.any (.sub rfl rfl (by omega)) rfl rfl rfl ?_
          refine W.any (.assign rfl) rfl rfl rfl ?_
          refine W.nil ?_
          refine E.thenN ?_
          refine WC.region ?_
          refine W.any (.move rfl) rfl rfl rfl ?_
          refine W.any (.assign rfl) rfl rfl rfl ?_
          refine W.nil ?_
          refine E.meet (((a + b) / 2) + m - b, ((a + b) / 2)) (.cons rfl (.cons rfl (.cons rfl (.cons rfl (.cons rfl (.cons rfl (.cons rfl (.cons' rfl (int_eq (by omega)) (.cons rfl (.nil _)))))))))) ?_
          exact ⟨by omega, L0, Nat.le_refl _, hO⟩
        · refine WC.condN rfl (decide_eq_false c8) ?_
          refine WC.seq ?_
          refine WC.region ?_
          refine W.any (.move rfl) rfl rfl rfl ?_
          refine W.any (.assign rfl) rfl rfl rfl ?_
          refine W.nil ?_
          refine E.thenN ?_
          refine WC.region ?_
          refine W.any (.move rfl) rfl rfl rfl ?_
          refine W.any (.assign rfl) rfl rfl rfl ?_
          refine W.nil ?_
          refine E.meet (a, m) (.cons rfl (.cons rfl (.cons rfl (.cons rfl (.cons rfl (.cons rfl (.cons rfl (.cons rfl (.cons rfl (.nil _)))))))))) ?_
          exact ⟨by omega, L0, Nat.le_refl _, hO⟩
      · rintro ⟨s0, r0⟩ wc32 ⟨hc0, Lc5, sc5, m5_0⟩
        refine WC.seq ?_
        refine WC.region ?_
        refine W.any (.move rfl) rfl rfl rfl ?_
        refine W.any (.sub rfl rfl (by omega)) rfl rfl rfl ?_
        refine W.any (.assign rfl) rfl rfl rfl ?_
        refine W.nil ?_
        refine E.thenN ?_
        refine WC.seq ?_
        refine WC.block ?_
        refine WC.loop (ι := Nat × Nat) (fun ⟨st, r⟩ => [(0, .slice A n c), (1, .int .i64 (((a : Nat) : Int))), (2, .int .i64 (((m : Nat) : Int))), (3, .int .i64 (((b : Nat) : Int))), (4, .func (.func 37) #[] #[]), (18, .int .i64 (((((a + b) / 2) : Nat) : Int))), (19, .int .i64 ((((((a + b) / 2) : Nat) : Int) + ((m : Nat) : Int)))), (20, .int .i64 (((st : Nat) : Int))), (21, .int .i64 (((r : Nat) : Int))), (22, .int .i64 (((((((a + b) / 2) : Nat) : Int) + ((m : Nat) : Int)) - 1)))]) (fun ⟨st, r⟩ wl4 => (s0 ≤ st ∧ st ≤ r ∧ r ≤ r0) ∧ (∀ k, s0 ≤ k → k < st → ltE (xs.getD (((a + b) / 2 + m - 1) - k) noEdge) (xs.getD k noEdge) = false) ∧ (∀ k, r ≤ k → k < r0 → ltE (xs.getD (((a + b) / 2 + m - 1) - k) noEdge) (xs.getD k noEdge) = true) ∧ Ch w wl4 (rowOf A c) ∧ wc32.heap.size ≤ wl4.heap.size ∧ OVec wl4 base 36 edgeV 9 A n c xs) (fun ⟨st, r⟩ => r - st) (s0, r0) ?_ ?_ ?_
        · exact .cons rfl (.cons rfl (.cons rfl (.cons rfl (.cons rfl (.cons rfl (.cons rfl (.cons rfl (.cons rfl (.cons rfl (.nil _))))))))))
        · exact ⟨by omega, fun k k1 k2 => by omega, fun k k1 k2 => by omega, Lc5, Nat.le_refl _, m5_0⟩
        · rintro ⟨st, r⟩ wl4 ⟨hsr, hlo4, hhi4, Ll4, zl4, f4_0⟩
          refine WC.seq ?_
          refine WC.seq ?_
          refine WC.region ?_
          refine W.any (.move rfl) rfl rfl rfl ?_
          refine W.any (.move rfl) rfl rfl rfl ?_
          refine W.any (.lss rfl rfl) rfl rfl rfl ?_
          refine W.nil ?_
          refine E.thenN ?_
          by_cases c9 : ((st : Nat) : Int) < ((r : Nat) : Int)
          · refine WC.condY rfl (decide_eq_true c9) ?_
            refine WC.skip ?_
            refine E.thenN ?_
            refine WC.block ?_
            refine WC.seq ?_
            refine WC.region ?_
            refine W.any (.move rfl) rfl rfl rfl ?_
            refine W.any (.move rfl) rfl rfl rfl ?_
            refine W.any (.add rfl rfl (by omega)) rfl rfl rfl ?_
            refine W.rd (.idI (isS Tryz.underlying3) Tryz.underlying130 rfl (IntWalk.u64_in _ (by omega))) rfl rfl rfl ?_
            refine W.any (.shrE (st + r) 1 ((st + r) / 2) rfl (by first | rfl | omega) rfl rfl (by decide) rfl) rfl rfl rfl ?_
            refine W.rd (.idI (isS Tryz.underlying130) Tryz.underlying3 rfl (IntWalk.i64_in _ (by omega))) rfl rfl rfl ?_
            refine W.any (.assign rfl) rfl rfl rfl ?_
            refine W.nil ?_
            refine E.thenN ?_
            refine WC.seq ?_
            refine WC.draw [0, 1, 2, 3, 4, 5, 6, 7, 8, 9, 10, 11, 12, 13] mixed (by kernel_rfl) ?_
            intro w35 d35
            have L19 := Ll4.trans (d35.ch _)
            refine G.any rfl rfl (.move rfl) rfl rfl rfl ?_
            refine G.any rfl rfl (.move rfl) rfl rfl rfl ?_
            refine G.any rfl rfl (.move rfl) rfl rfl rfl ?_
            refine G.any rfl rfl (.move rfl) rfl rfl rfl ?_
            refine G.any rfl rfl (.sub rfl rfl (by omega)) rfl rfl rfl ?_
            refine G.any rfl rfl (.idxS ((((((a + b) / 2) + m) - 1) - ((st + r) / 2))) Tryz.underlying44 sz36 rfl rfl (hO.vec.isSome edgeV_row (by omega)) (by omega) (by omega)) rfl rfl rfl ?_
            have f20 := (f4_0.le d35)
            refine G.rd rfl rfl (.vload ag36 rfl f20.vec edgeV_row (getS xs noEdge (by first | omega | (simp only [List.length_cons, List.length_nil]; omega)))) rfl rfl rfl ?_
            refine G.any rfl rfl (.move rfl) rfl rfl rfl ?_
            refine G.any rfl rfl (.move rfl) rfl rfl rfl ?_
            refine G.any rfl rfl (.idxS (((st + r) / 2)) Tryz.underlying44 sz36 rfl rfl (hO.vec.isSome edgeV_row (by omega)) (rfl) (by omega)) rfl rfl rfl ?_
            refine G.rd rfl rfl (.vload ag36 rfl f20.vec edgeV_row (getS xs noEdge (by first | omega | (simp only [List.length_cons, List.length_nil]; omega)))) rfl rfl rfl ?_
            refine G.ef rfl rfl rfl rfl rfl ?_
            refine Ef.call go37 rfl rfl (order_ok (xs.getD (((((a + b) / 2) + m) - 1) - ((st + r) / 2)) noEdge) (xs.getD ((st + r) / 2) noEdge) w35) ?_
            rintro _ w35_11 ⟨rfl, h35_11⟩
            refine ⟨_, rfl, ?_⟩
            refine ⟨fun _ => h35_11, ?_⟩
            have L21 := L19.trans (h35_11.ch _)
            refine G.any rfl rfl (.lss rfl rfl) rfl rfl rfl ?_
            refine G.any rfl rfl (.not rfl) rfl rfl rfl ?_
            refine G.nil ?_
            refine E.thenN ?_
            by_cases c10 : (ordE (xs.getD (((((a + b) / 2) + m) - 1) - ((st + r) / 2)) noEdge) (xs.getD ((st + r) / 2) noEdge)) < 0
            · refine WC.condN rfl (congrArg not (decide_eq_true c10)) ?_
              refine WC.region ?_
              refine W.any (.move rfl) rfl rfl rfl ?_
              refine W.any (.assign rfl) rfl rfl rfl ?_
              refine W.nil ?_
              refine E.blkN ?_
              have f22 := (f20.le h35_11)
              refine E.again (st, (st + r) / 2) (.cons rfl (.cons rfl (.cons rfl (.cons rfl (.cons rfl (.cons rfl (.cons rfl (.cons rfl (.cons rfl (.cons rfl (.nil _))))))))))) ?_ ?_
              · exact ⟨by omega, hlo4, fun k k1 k2 => srch_hi (c := (st + r) / 2) swoE su sv (by omega) (by omega) (by omega) (by omega) (by omega) (by omega) (decide_eq_true c10), L21, by have := zl4; have := d35.size; have := h35_11.size; omega, f22⟩
              · first | omega | (simp only []; omega)
            · refine WC.condY rfl (congrArg not (decide_eq_false c10)) ?_
              refine WC.region ?_
              refine W.any (.move rfl) rfl rfl rfl ?_
              refine W.any (.add rfl rfl (by omega)) rfl rfl rfl ?_
              refine W.any (.assign rfl) rfl rfl rfl ?_
              refine W.nil ?_
              refine E.blkN ?_
              have f23 := (f20.le h35_11)
              refine E.again ((st + r) / 2 + 1, r) (.cons rfl (.cons rfl (.cons rfl (.cons rfl (.cons rfl (.cons rfl (.cons rfl (.cons rfl (.cons rfl (.cons rfl (.nil _))))))))))) ?_ ?_
              · exact ⟨by omega, fun k k1 k2 => srch_lo (c := (st + r) / 2) swoE su sv (by omega) (by omega) (by omega) (by omega) (by omega) (by omega) (by omega) (decide_eq_false c10), hhi4, L21, by have := zl4; have := d35.size; have := h35_11.size; omega, f23⟩
              · first | omega | (simp only []; omega)
          · refine WC.condN rfl (decide_eq_false c9) ?_
            refine WC.exit ?_
            refine E.thenX ?_
            refine E.thenX ?_
            refine E.blkH ?_
            refine E.thenN ?_
            refine WC.seq ?_
            refine WC.region ?_
            refine W.any (.move rfl) rfl rfl rfl ?_
            refine W.any (.move rfl) rfl rfl rfl ?_
            refine W.any (.as (.sub rfl rfl (by omega)) (int_eq (b := ((((a + b) / 2 + m - st) : Nat) : Int)) (by omega))) rfl rfl rfl ?_
            refine W.any (.assign rfl) rfl rfl rfl ?_
            refine W.nil ?_
            refine E.thenN ?_
            refine WC.seq ?_
            refine WC.seq ?_
            refine WC.region ?_
            refine W.any (.move rfl) rfl rfl rfl ?_
            refine W.any (.move rfl) rfl rfl rfl ?_
            refine W.any (.lss rfl rfl) rfl rfl rfl ?_
            by_cases q39_3 : ((st : Nat) : Int) < ((m : Nat) : Int)
            · refine W.any (.dec (.move rfl) (decide_eq_true q39_3)) rfl rfl rfl ?_
              refine W.rdg (Any.rd (.move rfl) _) rfl rfl rfl (rfl) rfl rfl ?_
              refine W.rdg (Any.rd (.move rfl) _) rfl rfl rfl (rfl) rfl rfl ?_
              refine W.rdg (Any.rd (.lss rfl rfl) _) rfl rfl rfl (rfl) rfl rfl ?_
              refine W.any (.pickT rfl rfl rfl) rfl rfl rfl ?_
              refine W.nil ?_
              refine E.thenN ?_
              by_cases c11 : ((m : Nat) : Int) < ((((a + b) / 2 + m - st) : Nat) : Int)
              · refine WC.condY rfl (decide_eq_true c11) ?_
                refine WC.region ?_
                refine W.any (.move rfl) rfl rfl rfl ?_
                refine W.any (.move rfl) rfl rfl rfl ?_
                refine W.any (.move rfl) rfl rfl rfl ?_
                refine W.any (.move rfl) rfl rfl rfl ?_
                refine W.any (.move rfl) rfl rfl rfl ?_
                refine W.ef rfl rfl rfl ?_
                refine Ef.call go113 rfl rfl (rotC_ok st m ((a + b) / 2 + m - st) wl4 f4_0 (by omega) (by omega) (by omega) (by omega)) ?_
                rintro _ w40_5 ⟨rfl, zs40_5, hz40_5, o40_5, h40_5⟩
                refine ⟨_, rfl, ?_⟩
                have L24 := Ll4.trans h40_5
                have hzl40_5 := hz40_5.len
                refine W.nil ?_
                refine E.thenN ?_
                refine WC.seq ?_
                refine WC.seq ?_
                refine WC.region ?_
                refine W.any (.move rfl) rfl rfl rfl ?_
                refine W.any (.move rfl) rfl rfl rfl ?_
                refine W.any (.lss rfl rfl) rfl rfl rfl ?_
                by_cases q41_3 : ((a : Nat) : Int) < ((st : Nat) : Int)
                · refine W.any (.dec (.move rfl) (decide_eq_true q41_3)) rfl rfl rfl ?_
                  refine W.rdg (Any.rd (.move rfl) _) rfl rfl rfl (rfl) rfl rfl ?_
                  refine W.rdg (Any.rd (.move rfl) _) rfl rfl rfl (rfl) rfl rfl ?_
                  refine W.rdg (Any.rd (.lss rfl rfl) _) rfl rfl rfl (rfl) rfl rfl ?_
                  refine W.any (.pickT rfl rfl rfl) rfl rfl rfl ?_
                  refine W.nil ?_
                  refine E.thenN ?_
                  by_cases c12 : ((st : Nat) : Int) < ((((a + b) / 2) : Nat) : Int)
                  · refine WC.condY rfl (decide_eq_true c12) ?_
                    refine WC.region ?_
                    refine W.any (.move rfl) rfl rfl rfl ?_
                    refine W.any (.move rfl) rfl rfl rfl ?_
                    refine W.any (.move rfl) rfl rfl rfl ?_
                    refine W.any (.move rfl) rfl rfl rfl ?_
                    refine W.any (.move rfl) rfl rfl rfl ?_
                    refine W.ef rfl rfl rfl ?_
                    refine Ef.call go92 rfl rfl (ih a st ((a + b) / 2) zs40_5 w40_5 (by omega) o40_5 (by omega) (by omega) (by omega) (rot_srt1 hz40_5 (by omega) su) (rot_srt2 hz40_5 (by omega) (by omega) sv)) ?_
                    rintro _ w42_5 ⟨rfl, zs42_5, hz42_5, o42_5, h42_5⟩
                    refine ⟨_, rfl, ?_⟩
                    have L25 := L24.trans h42_5
                    have hzl42_5 := hz42_5.len
                    refine W.nil ?_
                    refine E.thenN ?_
                    refine WC.seq ?_
                    refine WC.region ?_
                    refine W.any (.move rfl) rfl rfl rfl ?_
                    refine W.any (.move rfl) rfl rfl rfl ?_
                    refine W.any (.lss rfl rfl) rfl rfl rfl ?_
                    by_cases q43_3 : ((((a + b) / 2) : Nat) : Int) < ((((a + b) / 2 + m - st) : Nat) : Int)
                    · refine W.any (.dec (.move rfl) (decide_eq_true q43_3)) rfl rfl rfl ?_
                      refine W.rdg (Any.rd (.move rfl) _) rfl rfl rfl (rfl) rfl rfl ?_
                      refine W.rdg (Any.rd (.move rfl) _) rfl rfl rfl (rfl) rfl rfl ?_
                      refine W.rdg (Any.rd (.lss rfl rfl) _) rfl rfl rfl (rfl) rfl rfl ?_
                      refine W.any (.pickT rfl rfl rfl) rfl rfl rfl ?_
                      refine W.nil ?_
                      refine E.thenN ?_
                      by_cases c13 : ((((a + b) / 2 + m - st) : Nat) : Int) < ((b : Nat) : Int)
                      · refine WC.condY rfl (decide_eq_true c13) ?_
                        refine WC.region ?_
                        refine W.any (.move rfl) rfl rfl rfl ?_
                        refine W.any (.move rfl) rfl rfl rfl ?_
                        refine W.any (.move rfl) rfl rfl rfl ?_
                        refine W.any (.move rfl) rfl rfl rfl ?_
                        refine W.any (.move rfl) rfl rfl rfl ?_
                        refine W.ef rfl rfl rfl ?_
                        refine Ef.call go92 rfl rfl (ih ((a + b) / 2) ((a + b) / 2 + m - st) b zs42_5 w42_5 (by omega) o42_5 (by omega) (by omega) (by omega) (part_keep hz42_5 (Nat.le_refl _) (rot_srt3 hz40_5 (by omega) (by omega) (by omega) (by omega) su)) (part_keep hz42_5 (by omega) (rot_srt4 hz40_5 (by omega) (by omega) sv))) ?_
                        rintro _ w44_5 ⟨rfl, zs44_5, hz44_5, o44_5, h44_5⟩
                        refine ⟨_, rfl, ?_⟩
                        have L26 := L25.trans h44_5
                        have hzl44_5 := hz44_5.len
                        refine W.nil ?_
                        refine E.end_ ?_
                        refine E.ret0 rfl ?_
                        exact ⟨rfl, _, sym_part (st0 := s0) (r0 := r0) (mid := (a + b) / 2) (en := (a + b) / 2 + m - st) swoE h1 h2 (by omega) rfl hc0 (by omega) (by omega) rfl su sv hlo4 (fun q q1 q2 => hhi4 q (by omega) q2) hz40_5 hz42_5 hz44_5, o44_5, L26⟩
                      · refine WC.condN rfl (decide_eq_false c13) ?_
                        have hp2N := side_right hz40_5 (by omega) (by omega) (by omega) (by omega) (by omega) su sv (by omega) hz42_5 (by omega)
                        refine WC.skip ?_
                        refine E.end_ ?_
                        refine E.ret0 rfl ?_
                        exact ⟨rfl, _, sym_part (st0 := s0) (r0 := r0) (mid := (a + b) / 2) (en := (a + b) / 2 + m - st) swoE h1 h2 (by omega) rfl hc0 (by omega) (by omega) rfl su sv hlo4 (fun q q1 q2 => hhi4 q (by omega) q2) hz40_5 hz42_5 hp2N, o42_5, L25⟩
                    · refine W.any (.dec (.move rfl) (decide_eq_false q43_3)) rfl rfl rfl ?_
                      refine W.skip rfl rfl rfl (rfl) rfl rfl ?_
                      refine W.skip rfl rfl rfl (rfl) rfl rfl ?_
                      refine W.skip rfl rfl rfl (rfl) rfl rfl ?_
                      refine W.any (.pickF rfl rfl rfl) rfl rfl rfl ?_
                      refine W.nil ?_
                      refine E.thenN ?_
                      refine WC.condF rfl ?_
                      have hp2N := side_right hz40_5 (by omega) (by omega) (by omega) (by omega) (by omega) su sv (by omega) hz42_5 (by omega)
                      refine WC.skip ?_
                      refine E.end_ ?_
                      refine E.ret0 rfl ?_
                      exact ⟨rfl, _, sym_part (st0 := s0) (r0 := r0) (mid := (a + b) / 2) (en := (a + b) / 2 + m - st) swoE h1 h2 (by omega) rfl hc0 (by omega) (by omega) rfl su sv hlo4 (fun q q1 q2 => hhi4 q (by omega) q2) hz40_5 hz42_5 hp2N, o42_5, L25⟩
                  · refine WC.condN rfl (decide_eq_false c12) ?_
                    have hp1N : Part ltE noEdge a ((a + b) / 2) zs40_5 zs40_5 := side_left hz40_5 (by omega) (by omega) (by omega) (by omega) (by omega) su sv (by omega) (by omega)
                    refine WC.skip ?_
                    refine E.thenN ?_
                    refine WC.seq ?_
                    refine WC.region ?_
                    refine W.any (.move rfl) rfl rfl rfl ?_
                    refine W.any (.move rfl) rfl rfl rfl ?_
                    refine W.any (.lss rfl rfl) rfl rfl rfl ?_
                    by_cases q43_3 : ((((a + b) / 2) : Nat) : Int) < ((((a + b) / 2 + m - st) : Nat) : Int)
                    · refine W.any (.dec (.move rfl) (decide_eq_true q43_3)) rfl rfl rfl ?_
                      refine W.rdg (Any.rd (.move rfl) _) rfl rfl rfl (rfl) rfl rfl ?_
                      refine W.rdg (Any.rd (.move rfl) _) rfl rfl rfl (rfl) rfl rfl ?_
                      refine W.rdg (Any.rd (.lss rfl rfl) _) rfl rfl rfl (rfl) rfl rfl ?_
                      refine W.any (.pickT rfl rfl rfl) rfl rfl rfl ?_
                      refine W.nil ?_
                      refine E.thenN ?_
                      by_cases c13 : ((((a + b) / 2 + m - st) : Nat) : Int) < ((b : Nat) : Int)
                      · refine WC.condY rfl (decide_eq_true c13) ?_
                        refine WC.region ?_
                        refine W.any (.move rfl) rfl rfl rfl ?_
                        refine W.any (.move rfl) rfl rfl rfl ?_
                        refine W.any (.move rfl) rfl rfl rfl ?_
                        refine W.any (.move rfl) rfl rfl rfl ?_
                        refine W.any (.move rfl) rfl rfl rfl ?_
                        refine W.ef rfl rfl rfl ?_
                        refine Ef.call go92 rfl rfl (ih ((a + b) / 2) ((a + b) / 2 + m - st) b zs40_5 w40_5 (by omega) o40_5 (by omega) (by omega) (by omega) (part_keep hp1N (Nat.le_refl _) (rot_srt3 hz40_5 (by omega) (by omega) (by omega) (by omega) su)) (part_keep hp1N (by omega) (rot_srt4 hz40_5 (by omega) (by omega) sv))) ?_
                        rintro _ w44_5_1 ⟨rfl, zs44_5_1, hz44_5_1, o44_5_1, h44_5_1⟩
                        refine ⟨_, rfl, ?_⟩
                        have L27 := L24.trans h44_5_1
                        have hzl44_5_1 := hz44_5_1.len
                        refine W.nil ?_
                        refine E.end_ ?_
                        refine E.ret0 rfl ?_
                        exact ⟨rfl, _, sym_part (st0 := s0) (r0 := r0) (mid := (a + b) / 2) (en := (a + b) / 2 + m - st) swoE h1 h2 (by omega) rfl hc0 (by omega) (by omega) rfl su sv hlo4 (fun q q1 q2 => hhi4 q (by omega) q2) hz40_5 hp1N hz44_5_1, o44_5_1, L27⟩
                      · refine WC.condN rfl (decide_eq_false c13) ?_
                        have hp2N := side_right hz40_5 (by omega) (by omega) (by omega) (by omega) (by omega) su sv (by omega) hp1N (by omega)
                        refine WC.skip ?_
                        refine E.end_ ?_
                        refine E.ret0 rfl ?_
                        exact ⟨rfl, _, sym_part (st0 := s0) (r0 := r0) (mid := (a + b) / 2) (en := (a + b) / 2 + m - st) swoE h1 h2 (by omega) rfl hc0 (by omega) (by omega) rfl su sv hlo4 (fun q q1 q2 => hhi4 q (by omega) q2) hz40_5 hp1N hp2N, o40_5, L24⟩
                    · refine W.any (.dec (.move rfl) (decide_eq_false q43_3)) rfl rfl rfl ?_
                      refine W.skip rfl rfl rfl (rfl) rfl rfl ?_
                      refine W.skip rfl rfl rfl (rfl) rfl rfl ?_
                      refine W.skip rfl rfl rfl (rfl) rfl rfl ?_
                      refine W.any (.pickF rfl rfl rfl) rfl rfl rfl ?_
                      refine W.nil ?_
                      refine E.thenN ?_
                      refine WC.condF rfl ?_
                      have hp2N := side_right hz40_5 (by omega) (by omega) (by omega) (by omega) (by omega) su sv (by omega) hp1N (by omega)
                      refine WC.skip ?_
                      refine E.end_ ?_
                      refine E.ret0 rfl ?_
                      exact ⟨rfl, _, sym_part (st0 := s0) (r0 := r0) (mid := (a + b) / 2) (en := (a + b) / 2 + m - st) swoE h1 h2 (by omega) rfl hc0 (by omega) (by omega) rfl su sv hlo4 (fun q q1 q2 => hhi4 q (by omega) q2) hz40_5 hp1N hp2N, o40_5, L24⟩
                · refine W.any (.dec (.move rfl) (decide_eq_false q41_3)) rfl rfl rfl ?_
                  refine W.skip rfl rfl rfl (rfl) rfl rfl ?_
                  refine W.skip rfl rfl rfl (rfl) rfl rfl ?_
                  refine W.skip rfl rfl rfl (rfl) rfl rfl ?_
                  refine W.any (.pickF rfl rfl rfl) rfl rfl rfl ?_
                  refine W.nil ?_
                  refine E.thenN ?_
                  refine WC.condF rfl ?_
                  have hp1N : Part ltE noEdge a ((a + b) / 2) zs40_5 zs40_5 := side_left hz40_5 (by omega) (by omega) (by omega) (by omega) (by omega) su sv (by omega) (by omega)
                  refine WC.skip ?_
                  refine E.thenN ?_
                  refine WC.seq ?_
                  refine WC.region ?_
                  refine W.any (.move rfl) rfl rfl rfl ?_
                  refine W.any (.move rfl) rfl rfl rfl ?_
                  refine W.any (.lss rfl rfl) rfl rfl rfl ?_
                  by_cases q43_3 : ((((a + b) / 2) : Nat) : Int) < ((((a + b) / 2 + m - st) : Nat) : Int)
                  · refine W.any (.dec (.move rfl) (decide_eq_true q43_3)) rfl rfl rfl ?_
                    refine W.rdg (Any.rd (.move rfl) _) rfl rfl rfl (rfl) rfl rfl ?_
                    refine W.rdg (Any.rd (.move rfl) _) rfl rfl rfl (rfl) rfl rfl ?_
                    refine W.rdg (Any.rd (.lss rfl rfl) _) rfl rfl rfl (rfl) rfl rfl ?_
                    refine W.any (.pickT rfl rfl rfl) rfl rfl rfl ?_
                    refine W.nil ?_
                    refine E.thenN ?_
                    by_cases c13 : ((((a + b) / 2 + m - st) : Nat) : Int) < ((b : Nat) : Int)
                    · refine WC.condY rfl (decide_eq_true c13) ?_
                      refine WC.region ?_
                      refine W.any (.move rfl) rfl rfl rfl ?_
                      refine W.any (.move rfl) rfl rfl rfl ?_
                      refine W.any (.move rfl) rfl rfl rfl ?_
                      refine W.any (.move rfl) rfl rfl rfl ?_
                      refine W.any (.move rfl) rfl rfl rfl ?_
                      refine W.ef rfl rfl rfl ?_
                      refine Ef.call go92 rfl rfl (ih ((a + b) / 2) ((a + b) / 2 + m - st) b zs40_5 w40_5 (by omega) o40_5 (by omega) (by omega) (by omega) (part_keep hp1N (Nat.le_refl _) (rot_srt3 hz40_5 (by omega) (by omega) (by omega) (by omega) su)) (part_keep hp1N (by omega) (rot_srt4 hz40_5 (by omega) (by omega) sv))) ?_
                      rintro _ w44_5_2 ⟨rfl, zs44_5_2, hz44_5_2, o44_5_2, h44_5_2⟩
                      refine ⟨_, rfl, ?_⟩
                      have L28 := L24.trans h44_5_2
                      have hzl44_5_2 := hz44_5_2.len
                      refine W.nil ?_
                      refine E.end_ ?_
                      refine E.ret0 rfl ?_
                      exact ⟨rfl, _, sym_part (st0 := s0) (r0 := r0) (mid := (a + b) / 2) (en := (a + b) / 2 + m - st) swoE h1 h2 (by omega) rfl hc0 (by omega) (by omega) rfl su sv hlo4 (fun q q1 q2 => hhi4 q (by omega) q2) hz40_5 hp1N hz44_5_2, o44_5_2, L28⟩
                    · refine WC.condN rfl (decide_eq_false c13) ?_
                      have hp2N := side_right hz40_5 (by omega) (by omega) (by omega) (by omega) (by omega) su sv (by omega) hp1N (by omega)
                      refine WC.skip ?_
                      refine E.end_ ?_
                      refine E.ret0 rfl ?_
                      exact ⟨rfl, _, sym_part (st0 := s0) (r0 := r0) (mid := (a + b) / 2) (en := (a + b) / 2 + m - st) swoE h1 h2 (by omega) rfl hc0 (by omega) (by omega) rfl su sv hlo4 (fun q q1 q2 => hhi4 q (by omega) q2) hz40_5 hp1N hp2N, o40_5, L24⟩
                  · refine W.any (.dec (.move rfl) (decide_eq_false q43_3)) rfl rfl rfl ?_
                    refine W.skip rfl rfl rfl (rfl) rfl rfl ?_
                    refine W.skip rfl rfl rfl (rfl) rfl rfl ?_
                    refine W.skip rfl rfl rfl (rfl) rfl rfl ?_
                    refine W.any (.pickF rfl rfl rfl) rfl rfl rfl ?_
                    refine W.nil ?_
                    refine E.thenN ?_
                    refine WC.condF rfl ?_
                    have hp2N := side_right hz40_5 (by omega) (by omega) (by omega) (by omega) (by omega) su sv (by omega) hp1N (by omega)
                    refine WC.skip ?_
                    refine E.end_ ?_
                    refine E.ret0 rfl ?_
                    exact ⟨rfl, _, sym_part (st0 := s0) (r0 := r0) (mid := (a + b) / 2) (en := (a + b) / 2 + m - st) swoE h1 h2 (by omega) rfl hc0 (by omega) (by omega) rfl su sv hlo4 (fun q q1 q2 => hhi4 q (by omega) q2) hz40_5 hp1N hp2N, o40_5, L24⟩
              · refine WC.condN rfl (decide_eq_false c11) ?_
                have hrN : Rot noEdge st m ((a + b) / 2 + m - st) xs xs := Rot.none (by omega) (by omega) (by omega)
                refine WC.skip ?_
                refine E.thenN ?_
                refine WC.seq ?_
                refine WC.seq ?_
                refine WC.region ?_
                refine W.any (.move rfl) rfl rfl rfl ?_
                refine W.any (.move rfl) rfl rfl rfl ?_
                refine W.any (.lss rfl rfl) rfl rfl rfl ?_
                by_cases q41_3 : ((a : Nat) : Int) < ((st : Nat) : Int)
                · refine W.any (.dec (.move rfl) (decide_eq_true q41_3)) rfl rfl rfl ?_
                  refine W.rdg (Any.rd (.move rfl) _) rfl rfl rfl (rfl) rfl rfl ?_
                  refine W.rdg (Any.rd (.move rfl) _) rfl rfl rfl (rfl) rfl rfl ?_
                  refine W.rdg (Any.rd (.lss rfl rfl) _) rfl rfl rfl (rfl) rfl rfl ?_
                  refine W.any (.pickT rfl rfl rfl) rfl rfl rfl ?_
                  refine W.nil ?_
                  refine E.thenN ?_
                  by_cases c12 : ((st : Nat) : Int) < ((((a + b) / 2) : Nat) : Int)
                  · refine WC.condY rfl (decide_eq_true c12) ?_
                    refine WC.region ?_
                    refine W.any (.move rfl) rfl rfl rfl ?_
                    refine W.any (.move rfl) rfl rfl rfl ?_
                    refine W.any (.move rfl) rfl rfl rfl ?_
                    refine W.any (.move rfl) rfl rfl rfl ?_
                    refine W.any (.move rfl) rfl rfl rfl ?_
                    refine W.ef rfl rfl rfl ?_
                    refine Ef.call go92 rfl rfl (ih a st ((a + b) / 2) xs wl4 (by omega) f4_0 (by omega) (by omega) (by omega) (rot_srt1 hrN (by omega) su) (rot_srt2 hrN (by omega) (by omega) sv)) ?_
                    rintro _ w42_5_1 ⟨rfl, zs42_5_1, hz42_5_1, o42_5_1, h42_5_1⟩
                    refine ⟨_, rfl, ?_⟩
                    have L29 := Ll4.trans h42_5_1
                    have hzl42_5_1 := hz42_5_1.len
                    refine W.nil ?_
                    refine E.thenN ?_
                    refine WC.seq ?_
                    refine WC.region ?_
                    refine W.any (.move rfl) rfl rfl rfl ?_
                    refine W.any (.move rfl) rfl rfl rfl ?_
                    refine W.any (.lss rfl rfl) rfl rfl rfl ?_
                    by_cases q43_3 : ((((a + b) / 2) : Nat) : Int) < ((((a + b) / 2 + m - st) : Nat) : Int)
                    · refine W.any (.dec (.move rfl) (decide_eq_true q43_3)) rfl rfl rfl ?_
                      refine W.rdg (Any.rd (.move rfl) _) rfl rfl rfl (rfl) rfl rfl ?_
                      refine W.rdg (Any.rd (.move rfl) _) rfl rfl rfl (rfl) rfl rfl ?_
                      refine W.rdg (Any.rd (.lss rfl rfl) _) rfl rfl rfl (rfl) rfl rfl ?_
                      refine W.any (.pickT rfl rfl rfl) rfl rfl rfl ?_
                      refine W.nil ?_
                      refine E.thenN ?_
                      by_cases c13 : ((((a + b) / 2 + m - st) : Nat) : Int) < ((b : Nat) : Int)
                      · refine WC.condY rfl (decide_eq_true c13) ?_
                        refine WC.region ?_
                        refine W.any (.move rfl) rfl rfl rfl ?_
                        refine W.any (.move rfl) rfl rfl rfl ?_
                        refine W.any (.move rfl) rfl rfl rfl ?_
                        refine W.any (.move rfl) rfl rfl rfl ?_
                        refine W.any (.move rfl) rfl rfl rfl ?_
                        refine W.ef rfl rfl rfl ?_
                        refine Ef.call go92 rfl rfl (ih ((a + b) / 2) ((a + b) / 2 + m - st) b zs42_5_1 w42_5_1 (by omega) o42_5_1 (by omega) (by omega) (by omega) (part_keep hz42_5_1 (Nat.le_refl _) (rot_srt3 hrN (by omega) (by omega) (by omega) (by omega) su)) (part_keep hz42_5_1 (by omega) (rot_srt4 hrN (by omega) (by omega) sv))) ?_
                        rintro _ w44_5_3 ⟨rfl, zs44_5_3, hz44_5_3, o44_5_3, h44_5_3⟩
                        refine ⟨_, rfl, ?_⟩
                        have L30 := L29.trans h44_5_3
                        have hzl44_5_3 := hz44_5_3.len
                        refine W.nil ?_
                        refine E.end_ ?_
                        refine E.ret0 rfl ?_
                        exact ⟨rfl, _, sym_part (st0 := s0) (r0 := r0) (mid := (a + b) / 2) (en := (a + b) / 2 + m - st) swoE h1 h2 (by omega) rfl hc0 (by omega) (by omega) rfl su sv hlo4 (fun q q1 q2 => hhi4 q (by omega) q2) hrN hz42_5_1 hz44_5_3, o44_5_3, L30⟩
                      · refine WC.condN rfl (decide_eq_false c13) ?_
                        have hp2N := side_right hrN (by omega) (by omega) (by omega) (by omega) (by omega) su sv (by omega) hz42_5_1 (by omega)
                        refine WC.skip ?_
                        refine E.end_ ?_
                        refine E.ret0 rfl ?_
                        exact ⟨rfl, _, sym_part (st0 := s0) (r0 := r0) (mid := (a + b) / 2) (en := (a + b) / 2 + m - st) swoE h1 h2 (by omega) rfl hc0 (by omega) (by omega) rfl su sv hlo4 (fun q q1 q2 => hhi4 q (by omega) q2) hrN hz42_5_1 hp2N, o42_5_1, L29⟩
                    · refine W.any (.dec (.move rfl) (decide_eq_false q43_3)) rfl rfl rfl ?_
                      refine W.skip rfl rfl rfl (rfl) rfl rfl ?_
                      refine W.skip rfl rfl rfl (rfl) rfl rfl ?_
                      refine W.skip rfl rfl rfl (rfl) rfl rfl ?_
                      refine W.any (.pickF rfl rfl rfl) rfl rfl rfl ?_
                      refine W.nil ?_
                      refine E.thenN ?_
                      refine WC.condF rfl ?_
                      have hp2N := side_right hrN (by omega) (by omega) (by omega) (by omega) (by omega) su sv (by omega) hz42_5_1 (by omega)
                      refine WC.skip ?_
                      refine E.end_ ?_
                      refine E.ret0 rfl ?_
                      exact ⟨rfl, _, sym_part (st0 := s0) (r0 := r0) (mid := (a + b) / 2) (en := (a + b) / 2 + m - st) swoE h1 h2 (by omega) rfl hc0 (by omega) (by omega) rfl su sv hlo4 (fun q q1 q2 => hhi4 q (by omega) q2) hrN hz42_5_1 hp2N, o42_5_1, L29⟩
                  · refine WC.condN rfl (decide_eq_false c12) ?_
                    have hp1N : Part ltE noEdge a ((a + b) / 2) xs xs := side_left hrN (by omega) (by omega) (by omega) (by omega) (by omega) su sv (by omega) (by omega)
                    refine WC.skip ?_
                    refine E.thenN ?_
                    refine WC.seq ?_
                    refine WC.region ?_
                    refine W.any (.move rfl) rfl rfl rfl ?_
                    refine W.any (.move rfl) rfl rfl rfl ?_
                    refine W.any (.lss rfl rfl) rfl rfl rfl ?_
                    by_cases q43_3 : ((((a + b) / 2) : Nat) : Int) < ((((a + b) / 2 + m - st) : Nat) : Int)
                    · refine W.any (.dec (.move rfl) (decide_eq_true q43_3)) rfl rfl rfl ?_
                      refine W.rdg (Any.rd (.move rfl) _) rfl rfl rfl (rfl) rfl rfl ?_
                      refine W.rdg (Any.rd (.move rfl) _) rfl rfl rfl (rfl) rfl rfl ?_
                      refine W.rdg (Any.rd (.lss rfl rfl) _) rfl rfl rfl (rfl) rfl rfl ?_
                      refine W.any (.pickT rfl rfl rfl) rfl rfl rfl ?_
                      refine W.nil ?_
                      refine E.thenN ?_
                      by_cases c13 : ((((a + b) / 2 + m - st) : Nat) : Int) < ((b : Nat) : Int)
                      · refine WC.condY rfl (decide_eq_true c13) ?_
                        refine WC.region ?_
                        refine W.any (.move rfl) rfl rfl rfl ?_
                        refine W.any (.move rfl) rfl rfl rfl ?_
                        refine W.any (.move rfl) rfl rfl rfl ?_
                        refine W.any (.move rfl) rfl rfl rfl ?_
                        refine W.any (.move rfl) rfl rfl rfl ?_
                        refine W.ef rfl rfl rfl ?_
                        refine Ef.call go92 rfl rfl (ih ((a + b) / 2) ((a + b) / 2 + m - st) b xs wl4 (by omega) f4_0 (by omega) (by omega) (by omega) (part_keep hp1N (Nat.le_refl _) (rot_srt3 hrN (by omega) (by omega) (by omega) (by omega) su)) (part_keep hp1N (by omega) (rot_srt4 hrN (by omega) (by omega) sv))) ?_
                        rintro _ w44_5_4 ⟨rfl, zs44_5_4, hz44_5_4, o44_5_4, h44_5_4⟩
                        refine ⟨_, rfl, ?_⟩
                        have L31 := Ll4.trans h44_5_4
                        have hzl44_5_4 := hz44_5_4.len
                        refine W.nil ?_
                        refine E.end_ ?_
                        refine E.ret0 rfl ?_
                        exact ⟨rfl, _, sym_part (st0 := s0) (r0 := r0) (mid := (a + b) / 2) (en := (a + b) / 2 + m - st) swoE h1 h2 (by omega) rfl hc0 (by omega) (by omega) rfl su sv hlo4 (fun q q1 q2 => hhi4 q (by omega) q2) hrN hp1N hz44_5_4, o44_5_4, L31⟩
                      · refine WC.condN rfl (decide_eq_false c13) ?_
                        have hp2N := side_right hrN (by omega) (by omega) (by omega) (by omega) (by omega) su sv (by omega) hp1N (by omega)
                        refine WC.skip ?_
                        refine E.end_ ?_
                        refine E.ret0 rfl ?_
                        exact ⟨rfl, _, sym_part (st0 := s0) (r0 := r0) (mid := (a + b) / 2) (en := (a + b) / 2 + m - st) swoE h1 h2 (by omega) rfl hc0 (by omega) (by omega) rfl su sv hlo4 (fun q q1 q2 => hhi4 q (by omega) q2) hrN hp1N hp2N, f4_0, Ll4⟩
                    · refine W.any (.dec (.move rfl) (decide_eq_false q43_3)) rfl rfl rfl ?_
                      refine W.skip rfl rfl rfl (rfl) rfl rfl ?_
                      refine W.skip rfl rfl rfl (rfl) rfl rfl ?_
                      refine W.skip rfl rfl rfl (rfl) rfl rfl ?_
                      refine W.any (.pickF rfl rfl rfl) rfl rfl rfl ?_
                      refine W.nil ?_
                      refine E.thenN ?_
                      refine WC.condF rfl ?_
                      have hp2N := side_right hrN (by omega) (by omega) (by omega) (by omega) (by omega) su sv (by omega) hp1N (by omega)
                      refine WC.skip ?_
                      refine E.end_ ?_
                      refine E.ret0 rfl ?_
                      exact ⟨rfl, _, sym_part (st0 := s0) (r0 := r0) (mid := (a + b) / 2) (en := (a + b) / 2 + m - st) swoE h1 h2 (by omega) rfl hc0 (by omega) (by omega) rfl su sv hlo4 (fun q q1 q2 => hhi4 q (by omega) q2) hrN hp1N hp2N, f4_0, Ll4⟩
                · refine W.any (.dec (.move rfl) (decide_eq_false q41_3)) rfl rfl rfl ?_
                  refine W.skip rfl rfl rfl (rfl) rfl rfl ?_
                  refine W.skip rfl rfl rfl (rfl) rfl rfl ?_
                  refine W.skip rfl rfl rfl (rfl) rfl rfl ?_
                  refine W.any (.pickF rfl rfl rfl) rfl rfl rfl ?_
                  refine W.nil ?_
                  refine E.thenN ?_
                  refine WC.condF rfl ?_
                  have hp1N : Part ltE noEdge a ((a + b) / 2) xs xs := side_left hrN (by omega) (by omega) (by omega) (by omega) (by omega) su sv (by omega) (by omega)
                  refine WC.skip ?_
                  refine E.thenN ?_
                  refine WC.seq ?_
                  refine WC.region ?_
                  refine W.any (.move rfl) rfl rfl rfl ?_
                  refine W.any (.move rfl) rfl rfl rfl ?_
                  refine W.any (.lss rfl rfl) rfl rfl rfl ?_
                  by_cases q43_3 : ((((a + b) / 2) : Nat) : Int) < ((((a + b) / 2 + m - st) : Nat) : Int)
                  · refine W.any (.dec (.move rfl) (decide_eq_true q43_3)) rfl rfl rfl ?_
                    refine W.rdg (Any.rd (.move rfl) _) rfl rfl rfl (rfl) rfl rfl ?_
                    refine W.rdg (Any.rd (.move rfl) _) rfl rfl rfl (rfl) rfl rfl ?_
                    refine W.rdg (Any.rd (.lss rfl rfl) _) rfl rfl rfl (rfl) rfl rfl ?_
                    refine W.any (.pickT rfl rfl rfl) rfl rfl rfl ?_
                    refine W.nil ?_
                    refine E.thenN ?_
                    by_cases c13 : ((((a + b) / 2 + m - st) : Nat) : Int) < ((b : Nat) : Int)
                    · refine WC.condY rfl (decide_eq_true c13) ?_
                      refine WC.region ?_
                      refine W.any (.move rfl) rfl rfl rfl ?_
                      refine W.any (.move rfl) rfl rfl rfl ?_
                      refine W.any (.move rfl) rfl rfl rfl ?_
                      refine W.any (.move rfl) rfl rfl rfl ?_
                      refine W.any (.move rfl) rfl rfl rfl ?_
                      refine W.ef rfl rfl rfl ?_
                      refine Ef.call go92 rfl rfl (ih ((a + b) / 2) ((a + b) / 2 + m - st) b xs wl4 (by omega) f4_0 (by omega) (by omega) (by omega) (part_keep hp1N (Nat.le_refl _) (rot_srt3 hrN (by omega) (by omega) (by omega) (by omega) su)) (part_keep hp1N (by omega) (rot_srt4 hrN (by omega) (by omega) sv))) ?_
                      rintro _ w44_5_5 ⟨rfl, zs44_5_5, hz44_5_5, o44_5_5, h44_5_5⟩
                      refine ⟨_, rfl, ?_⟩
                      have L32 := Ll4.trans h44_5_5
                      have hzl44_5_5 := hz44_5_5.len
                      refine W.nil ?_
                      refine E.end_ ?_
                      refine E.ret0 rfl ?_
                      exact ⟨rfl, _, sym_part (st0 := s0) (r0 := r0) (mid := (a + b) / 2) (en := (a + b) / 2 + m - st) swoE h1 h2 (by omega) rfl hc0 (by omega) (by omega) rfl su sv hlo4 (fun q q1 q2 => hhi4 q (by omega) q2) hrN hp1N hz44_5_5, o44_5_5, L32⟩
                    · refine WC.condN rfl (decide_eq_false c13) ?_
                      have hp2N := side_right hrN (by omega) (by omega) (by omega) (by omega) (by omega) su sv (by omega) hp1N (by omega)
                      refine WC.skip ?_
                      refine E.end_ ?_
                      refine E.ret0 rfl ?_
                      exact ⟨rfl, _, sym_part (st0 := s0) (r0 := r0) (mid := (a + b) / 2) (en := (a + b) / 2 + m - st) swoE h1 h2 (by omega) rfl hc0 (by omega) (by omega) rfl su sv hlo4 (fun q q1 q2 => hhi4 q (by omega) q2) hrN hp1N hp2N, f4_0, Ll4⟩
                  · refine W.any (.dec (.move rfl) (decide_eq_false q43_3)) rfl rfl rfl ?_
                    refine W.skip rfl rfl rfl (rfl) rfl rfl ?_
                    refine W.skip rfl rfl rfl (rfl) rfl rfl ?_
                    refine W.skip rfl rfl rfl (rfl) rfl rfl ?_
                    refine W.any (.pickF rfl rfl rfl) rfl rfl rfl ?_
                    refine W.nil ?_
                    refine E.thenN ?_
                    refine WC.condF rfl ?_
                    have hp2N := side_right hrN (by omega) (by omega) (by omega) (by omega) (by omega) su sv (by omega) hp1N (by omega)
                    refine WC.skip ?_
                    refine E.end_ ?_
                    refine E.ret0 rfl ?_
                    exact ⟨rfl, _, sym_part (st0 := s0) (r0 := r0) (mid := (a + b) / 2) (en := (a + b) / 2 + m - st) swoE h1 h2 (by omega) rfl hc0 (by omega) (by omega) rfl su sv hlo4 (fun q q1 q2 => hhi4 q (by omega) q2) hrN hp1N hp2N, f4_0, Ll4⟩
            · refine W.any (.dec (.move rfl) (decide_eq_false q39_3)) rfl rfl rfl ?_
              refine W.skip rfl rfl rfl (rfl) rfl rfl ?_
              refine W.skip rfl rfl rfl (rfl) rfl rfl ?_
              refine W.skip rfl rfl rfl (rfl) rfl rfl ?_
              refine W.any (.pickF rfl rfl rfl) rfl rfl rfl ?_
              refine W.nil ?_
              refine E.thenN ?_
              refine WC.condF rfl ?_
              have hrN : Rot noEdge st m ((a + b) / 2 + m - st) xs xs := Rot.none (by omega) (by omega) (by omega)
              refine WC.skip ?_
              refine E.thenN ?_
              refine WC.seq ?_
              refine WC.seq ?_
              refine WC.region ?_
              refine W.any (.move rfl) rfl rfl rfl ?_
              refine W.any (.move rfl) rfl rfl rfl ?_
              refine W.any (.lss rfl rfl) rfl rfl rfl ?_
              by_cases q41_3 : ((a : Nat) : Int) < ((st : Nat) : Int)
              · refine W.any (.dec (.move rfl) (decide_eq_true q41_3)) rfl rfl rfl ?_
                refine W.rdg (Any.rd (.move rfl) _) rfl rfl rfl (rfl) rfl rfl ?_
                refine W.rdg (Any.rd (.move rfl) _) rfl rfl rfl (rfl) rfl rfl ?_
                refine W.rdg (Any.rd (.lss rfl rfl) _) rfl rfl rfl (rfl) rfl rfl ?_
                refine W.any (.pickT rfl rfl rfl) rfl rfl rfl ?_
                refine W.nil ?_
                refine E.thenN ?_
                by_cases c12 : ((st : Nat) : Int) < ((((a + b) / 2) : Nat) : Int)
                · refine WC.condY rfl (decide_eq_true c12) ?_
                  refine WC.region ?_
                  refine W.any (.move rfl) rfl rfl rfl ?_
                  refine W.any (.move rfl) rfl rfl rfl ?_
                  refine W.any (.move rfl) rfl rfl rfl ?_
                  refine W.any (.move rfl) rfl rfl rfl ?_
                  refine W.any (.move rfl) rfl rfl rfl ?_
                  refine W.ef rfl rfl rfl ?_
                  refine Ef.call go92 rfl rfl (ih a st ((a + b) / 2) xs wl4 (by omega) f4_0 (by omega) (by omega) (by omega) (rot_srt1 hrN (by omega) su) (rot_srt2 hrN (by omega) (by omega) sv)) ?_
                  rintro _ w42_5_2 ⟨rfl, zs42_5_2, hz42_5_2, o42_5_2, h42_5_2⟩
                  refine ⟨_, rfl, ?_⟩
                  have L33 := Ll4.trans h42_5_2
                  have hzl42_5_2 := hz42_5_2.len
                  refine W.nil ?_
                  refine E.thenN ?_
                  refine WC.seq ?_
                  refine WC.region ?_
                  refine W.any (.move rfl) rfl rfl rfl ?_
                  refine W.any (.move rfl) rfl rfl rfl ?_
                  refine W.any (.lss rfl rfl) rfl rfl rfl ?_
                  by_cases q43_3 : ((((a + b) / 2) : Nat) : Int) < ((((a + b) / 2 + m - st) : Nat) : Int)
                  · refine W.any (.dec (.move rfl) (decide_eq_true q43_3)) rfl rfl rfl ?_
                    refine W.rdg (Any.rd (.move rfl) _) rfl rfl rfl (rfl) rfl rfl ?_
                    refine W.rdg (Any.rd (.move rfl) _) rfl rfl rfl (rfl) rfl rfl ?_
                    refine W.rdg (Any.rd (.lss rfl rfl) _) rfl rfl rfl (rfl) rfl rfl ?_
                    refine W.any (.pickT rfl rfl rfl) rfl rfl rfl ?_
                    refine W.nil ?_
                    refine E.thenN ?_
                    by_cases c13 : ((((a + b) / 2 + m - st) : Nat) : Int) < ((b : Nat) : Int)
                    · refine WC.condY rfl (decide_eq_true c13) ?_
                      refine WC.region ?_
                      refine W.any (.move rfl) rfl rfl rfl ?_
                      refine W.any (.move rfl) rfl rfl rfl ?_
                      refine W.any (.move rfl) rfl rfl rfl ?_
                      refine W.any (.move rfl) rfl rfl rfl ?_
                      refine W.any (.move rfl) rfl rfl rfl ?_
                      refine W.ef rfl rfl rfl ?_
                      refine Ef.call go92 rfl rfl (ih ((a + b) / 2) ((a + b) / 2 + m - st) b zs42_5_2 w42_5_2 (by omega) o42_5_2 (by omega) (by omega) (by omega) (part_keep hz42_5_2 (Nat.le_refl _) (rot_srt3 hrN (by omega) (by omega) (by omega) (by omega) su)) (part_keep hz42_5_2 (by omega) (rot_srt4 hrN (by omega) (by omega) sv))) ?_
                      rintro _ w44_5_6 ⟨rfl, zs44_5_6, hz44_5_6, o44_5_6, h44_5_6⟩
                      refine ⟨_, rfl, ?_⟩
                      have L34 := L33.trans h44_5_6
                      have hzl44_5_6 := hz44_5_6.len
                      refine W.nil ?_
                      refine E.end_ ?_
                      refine E.ret0 rfl ?_
                      exact ⟨rfl, _, sym_part (st0 := s0) (r0 := r0) (mid := (a + b) / 2) (en := (a + b) / 2 + m - st) swoE h1 h2 (by omega) rfl hc0 (by omega) (by omega) rfl su sv hlo4 (fun q q1 q2 => hhi4 q (by omega) q2) hrN hz42_5_2 hz44_5_6, o44_5_6, L34⟩
                    · refine WC.condN rfl (decide_eq_false c13) ?_
                      have hp2N := side_right hrN (by omega) (by omega) (by omega) (by omega) (by omega) su sv (by omega) hz42_5_2 (by omega)
                      refine WC.skip ?_
                      refine E.end_ ?_
                      refine E.ret0 rfl ?_
                      exact ⟨rfl, _, sym_part (st0 := s0) (r0 := r0) (mid := (a + b) / 2) (en := (a + b) / 2 + m - st) swoE h1 h2 (by omega) rfl hc0 (by omega) (by omega) rfl su sv hlo4 (fun q q1 q2 => hhi4 q (by omega) q2) hrN hz42_5_2 hp2N, o42_5_2, L33⟩
                  · refine W.any (.dec (.move rfl) (decide_eq_false q43_3)) rfl rfl rfl ?_
                    refine W.skip rfl rfl rfl (rfl) rfl rfl ?_
                    refine W.skip rfl rfl rfl (rfl) rfl rfl ?_
                    refine W.skip rfl rfl rfl (rfl) rfl rfl ?_
                    refine W.any (.pickF rfl rfl rfl) rfl rfl rfl ?_
                    refine W.nil ?_
                    refine E.thenN ?_
                    refine WC.condF rfl ?_
                    have hp2N := side_right hrN (by omega) (by omega) (by omega) (by omega) (by omega) su sv (by omega) hz42_5_2 (by omega)
                    refine WC.skip ?_
                    refine E.end_ ?_
                    refine E.ret0 rfl ?_
                    exact ⟨rfl, _, sym_part (st0 := s0) (r0 := r0) (mid := (a + b) / 2) (en := (a + b) / 2 + m - st) swoE h1 h2 (by omega) rfl hc0 (by omega) (by omega) rfl su sv hlo4 (fun q q1 q2 => hhi4 q (by omega) q2) hrN hz42_5_2 hp2N, o42_5_2, L33⟩
                · refine WC.condN rfl (decide_eq_false c12) ?_
                  have hp1N : Part ltE noEdge a ((a + b) / 2) xs xs := side_left hrN (by omega) (by omega) (by omega) (by omega) (by omega) su sv (by omega) (by omega)
                  refine WC.skip ?_
                  refine E.thenN ?_
                  refine WC.seq ?_
                  refine WC.region ?_
                  refine W.any (.move rfl) rfl rfl rfl ?_
                  refine W.any (.move rfl) rfl rfl rfl ?_
                  refine W.any (.lss rfl rfl) rfl rfl rfl ?_
                  by_cases q43_3 : ((((a + b) / 2) : Nat) : Int) < ((((a + b) / 2 + m - st) : Nat) : Int)
                  · refine W.any (.dec (.move rfl) (decide_eq_true q43_3)) rfl rfl rfl ?_
                    refine W.rdg (Any.rd (.move rfl) _) rfl rfl rfl (rfl) rfl rfl ?_
                    refine W.rdg (Any.rd (.move rfl) _) rfl rfl rfl (rfl) rfl rfl ?_
                    refine W.rdg (Any.rd (.lss rfl rfl) _) rfl rfl rfl (rfl) rfl rfl ?_
                    refine W.any (.pickT rfl rfl rfl) rfl rfl rfl ?_
                    refine W.nil ?_
                    refine E.thenN ?_
                    by_cases c13 : ((((a + b) / 2 + m - st) : Nat) : Int) < ((b : Nat) : Int)
                    · refine WC.condY rfl (decide_eq_true c13) ?_
                      refine WC.region ?_
                      refine W.any (.move rfl) rfl rfl rfl ?_
                      refine W.any (.move rfl) rfl rfl rfl ?_
                      refine W.any (.move rfl) rfl rfl rfl ?_
                      refine W.any (.move rfl) rfl rfl rfl ?_
                      refine W.any (.move rfl) rfl rfl rfl ?_
                      refine W.ef rfl rfl rfl ?_
                      refine Ef.call go92 rfl rfl (ih ((a + b) / 2) ((a + b) / 2 + m - st) b xs wl4 (by omega) f4_0 (by omega) (by omega) (by omega) (part_keep hp1N (Nat.le_refl _) (rot_srt3 hrN (by omega) (by omega) (by omega) (by omega) su)) (part_keep hp1N (by omega) (rot_srt4 hrN (by omega) (by omega) sv))) ?_
                      rintro _ w44_5_7 ⟨rfl, zs44_5_7, hz44_5_7, o44_5_7, h44_5_7⟩
                      refine ⟨_, rfl, ?_⟩
                      have L35 := Ll4.trans h44_5_7
                      have hzl44_5_7 := hz44_5_7.len
                      refine W.nil ?_
                      refine E.end_ ?_
                      refine E.ret0 rfl ?_
                      exact ⟨rfl, _, sym_part (st0 := s0) (r0 := r0) (mid := (a + b) / 2) (en := (a + b) / 2 + m - st) swoE h1 h2 (by omega) rfl hc0 (by omega) (by omega) rfl su sv hlo4 (fun q q1 q2 => hhi4 q (by omega) q2) hrN hp1N hz44_5_7, o44_5_7, L35⟩
                    · refine WC.condN rfl (decide_eq_false c13) ?_
                      have hp2N := side_right hrN (by omega) (by omega) (by omega) (by omega) (by omega) su sv (by omega) hp1N (by omega)
                      refine WC.skip ?_
                      refine E.end_ ?_
                      refine E.ret0 rfl ?_
                      exact ⟨rfl, _, sym_part (st0 := s0) (r0 := r0) (mid := (a + b) / 2) (en := (a + b) / 2 + m - st) swoE h1 h2 (by omega) rfl hc0 (by omega) (by omega) rfl su sv hlo4 (fun q q1 q2 => hhi4 q (by omega) q2) hrN hp1N hp2N, f4_0, Ll4⟩
                  · refine W.any (.dec (.move rfl) (decide_eq_false q43_3)) rfl rfl rfl ?_
                    refine W.skip rfl rfl rfl (rfl) rfl rfl ?_
                    refine W.skip rfl rfl rfl (rfl) rfl rfl ?_
                    refine W.skip rfl rfl rfl (rfl) rfl rfl ?_
                    refine W.any (.pickF rfl rfl rfl) rfl rfl rfl ?_
                    refine W.nil ?_
                    refine E.thenN ?_
                    refine WC.condF rfl ?_
                    have hp2N := side_right hrN (by omega) (by omega) (by omega) (by omega) (by omega) su sv (by omega) hp1N (by omega)
                    refine WC.skip ?_
                    refine E.end_ ?_
                    refine E.ret0 rfl ?_
                    exact ⟨rfl, _, sym_part (st0 := s0) (r0 := r0) (mid := (a + b) / 2) (en := (a + b) / 2 + m - st) swoE h1 h2 (by omega) rfl hc0 (by omega) (by omega) rfl su sv hlo4 (fun q q1 q2 => hhi4 q (by omega) q2) hrN hp1N hp2N, f4_0, Ll4⟩
              · refine W.any (.dec (.move rfl) (decide_eq_false q41_3)) rfl rfl rfl ?_
                refine W.skip rfl rfl rfl (rfl) rfl rfl ?_
                refine W.skip rfl rfl rfl (rfl) rfl rfl ?_
                refine W.skip rfl rfl rfl (rfl) rfl rfl ?_
                refine W.any (.pickF rfl rfl rfl) rfl rfl rfl ?_
                refine W.nil ?_
                refine E.thenN ?_
                refine WC.condF rfl ?_
                have hp1N : Part ltE noEdge a ((a + b) / 2) xs xs := side_left hrN (by omega) (by omega) (by omega) (by omega) (by omega) su sv (by omega) (by omega)
                refine WC.skip ?_
                refine E.thenN ?_
                refine WC.seq ?_
                refine WC.region ?_
                refine W.any (.move rfl) rfl rfl rfl ?_
                refine W.any (.move rfl) rfl rfl rfl ?_
                refine W.any (.lss rfl rfl) rfl rfl rfl ?_
                by_cases q43_3 : ((((a + b) / 2) : Nat) : Int) < ((((a + b) / 2 + m - st) : Nat) : Int)
                · refine W.any (.dec (.move rfl) (decide_eq_true q43_3)) rfl rfl rfl ?_
                  refine W.rdg (Any.rd (.move rfl) _) rfl rfl rfl (rfl) rfl rfl ?_
                  refine W.rdg (Any.rd (.move rfl) _) rfl rfl rfl (rfl) rfl rfl ?_
                  refine W.rdg (Any.rd (.lss rfl rfl) _) rfl rfl rfl (rfl) rfl rfl ?_
                  refine W.any (.pickT rfl rfl rfl) rfl rfl rfl ?_
                  refine W.nil ?_
                  refine E.thenN ?_
                  by_cases c13 : ((((a + b) / 2 + m - st) : Nat) : Int) < ((b : Nat) : Int)
                  · refine WC.condY rfl (decide_eq_true c13) ?_
                    refine WC.region ?_
                    refine W.any (.move rfl) rfl rfl rfl ?_
                    refine W.any (.move rfl) rfl rfl rfl ?_
                    refine W.any (.move rfl) rfl rfl rfl ?_
                    refine W.any (.move rfl) rfl rfl rfl ?_
                    refine W.any (.move rfl) rfl rfl rfl ?_
                    refine W.ef rfl rfl rfl ?_
                    refine Ef.call go92 rfl rfl (ih ((a + b) / 2) ((a + b) / 2 + m - st) b xs wl4 (by omega) f4_0 (by omega) (by omega) (by omega) (part_keep hp1N (Nat.le_refl _) (rot_srt3 hrN (by omega) (by omega) (by omega) (by omega) su)) (part_keep hp1N (by omega) (rot_srt4 hrN (by omega) (by omega) sv))) ?_
                    rintro _ w44_5_8 ⟨rfl, zs44_5_8, hz44_5_8, o44_5_8, h44_5_8⟩
                    refine ⟨_, rfl, ?_⟩
                    have L36 := Ll4.trans h44_5_8
                    have hzl44_5_8 := hz44_5_8.len
                    refine W.nil ?_
                    refine E.end_ ?_
                    refine E.ret0 rfl ?_
                    exact ⟨rfl, _, sym_part (st0 := s0) (r0 := r0) (mid := (a + b) / 2) (en := (a + b) / 2 + m - st) swoE h1 h2 (by omega) rfl hc0 (by omega) (by omega) rfl su sv hlo4 (fun q q1 q2 => hhi4 q (by omega) q2) hrN hp1N hz44_5_8, o44_5_8, L36⟩
                  · refine WC.condN rfl (decide_eq_false c13) ?_
                    have hp2N := side_right hrN (by omega) (by omega) (by omega) (by omega) (by omega) su sv (by omega) hp1N (by omega)
                    refine WC.skip ?_
                    refine E.end_ ?_
                    refine E.ret0 rfl ?_
                    exact ⟨rfl, _, sym_part (st0 := s0) (r0 := r0) (mid := (a + b) / 2) (en := (a + b) / 2 + m - st) swoE h1 h2 (by omega) rfl hc0 (by omega) (by omega) rfl su sv hlo4 (fun q q1 q2 => hhi4 q (by omega) q2) hrN hp1N hp2N, f4_0, Ll4⟩
                · refine W.any (.dec (.move rfl) (decide_eq_false q43_3)) rfl rfl rfl ?_
                  refine W.skip rfl rfl rfl (rfl) rfl rfl ?_
                  refine W.skip rfl rfl rfl (rfl) rfl rfl ?_
                  refine W.skip rfl rfl rfl (rfl) rfl rfl ?_
                  refine W.any (.pickF rfl rfl rfl) rfl rfl rfl ?_
                  refine W.nil ?_
                  refine E.thenN ?_
                  refine WC.condF rfl ?_
                  have hp2N := side_right hrN (by omega) (by omega) (by omega) (by omega) (by omega) su sv (by omega) hp1N (by omega)
                  refine WC.skip ?_
                  refine E.end_ ?_
                  refine E.ret0 rfl ?_
                  exact ⟨rfl, _, sym_part (st0 := s0) (r0 := r0) (mid := (a + b) / 2) (en := (a + b) / 2 + m - st) swoE h1 h2 (by omega) rfl hc0 (by omega) (by omega) rfl su sv hlo4 (fun q q1 q2 => hhi4 q (by omega) q2) hrN hp1N hp2N, f4_0, Ll4⟩

theorem symM_all {base : Nat} {A : Option Addr} {n c : Nat} (hn : n ≤ 1000000) : ∀ (N a m b : Nat) (xs : List Gsp.Edge) (w : World), b - a ≤ N → OVec w base 36 edgeV 9 A n c xs → a < m → m < b → b ≤ n → Srt ltE noEdge a m xs → Srt ltE noEdge m b xs → Calls Tryz.prog 92 #[.slice A n c, .int .i64 ((a : Nat) : Int), .int .i64 ((m : Nat) : Int), .int .i64 ((b : Nat) : Int), .func (.func 37) #[] #[]] w (fun r w' => r = .returned (.tuple #[]) ∧ ∃ zs, Part ltE noEdge a b xs zs ∧ OVec w' base 36 edgeV 9 A n c zs ∧ Ch w w' (rowOf A c))
  | 0, a, m, b, xs, w, hN, hO, h1, h2, h3, su, sv => by omega
  | N + 1, a, m, b, xs, w, hN, hO, h1, h2, h3, su, sv => symM_step a m b w hO h1 h2 h3 hn su sv fun a' m' b' ys w1 hlt hO' q1 q2 q3 s1 s2 => symM_all hn N a' m' b' ys w1 (by omega) hO' q1 q2 q3 s1 s2
theorem symM_ok (a m b : Nat) {base : Nat} {A : Option Addr} {n c : Nat} {xs : List Gsp.Edge} (w : World) (hO : OVec w base 36 edgeV 9 A n c xs) (h1 : a < m) (h2 : m < b) (h3 : b ≤ n) (hn : n ≤ 1000000) (su : Srt ltE noEdge a m xs) (sv : Srt ltE noEdge m b xs) : Calls Tryz.prog 92 #[.slice A n c, .int .i64 ((a : Nat) : Int), .int .i64 ((m : Nat) : Int), .int .i64 ((b : Nat) : Int), .func (.func 37) #[] #[]] w (fun r w' => r = .returned (.tuple #[]) ∧ ∃ zs, Part ltE noEdge a b xs zs ∧ OVec w' base 36 edgeV 9 A n c zs ∧ Ch w w' (rowOf A c)) := symM_all hn (b - a) a m b xs w (Nat.le_refl _) hO h1 h2 h3 su sv

theorem stable_ok {base : Nat} {A : Option Addr} {n c : Nat} {xs : List Gsp.Edge} (w : World) (hO : OVec w base 36 edgeV 9 A n c xs) (hn : n ≤ 1000000) : Calls Tryz.prog 72 #[.slice A n c, .int .i64 (((n : Nat) : Int)), .func (.func 37) #[] #[]] w fun r w' => r = .returned (.tuple #[]) ∧ ∃ zs, Stab ltE xs zs ∧ OVec w' base 36 edgeV 9 A n c zs ∧ Ch w w' (rowOf A c) := by
  have hl := hO.1
  refine enter Tryz.func72 rfl rfl ?_
  have L0 := Ch.refl w (rowOf A c)
  refine WC.seq ?_
  refine WC.region ?_
  refine W.any (.assign rfl) rfl rfl rfl ?_
  refine W.nil ?_
  refine E.thenN ?_
  refine WC.seq ?_
  refine WC.region ?_
  refine W.any (.move rfl) rfl rfl rfl ?_
  refine W.any (.assign rfl) rfl rfl rfl ?_
  refine W.any (.assign rfl) rfl rfl rfl ?_
  refine W.nil ?_
  refine E.thenN ?_
  refine WC.seq ?_
  refine WC.block ?_
  refine WC.loop (ι := Nat × (List Gsp.Edge)) (fun ⟨k, ys⟩ => [(0, .slice A n c), (1, .int .i64 (((n : Nat) : Int))), (2, .func (.func 37) #[] #[]), (6, .int .i64 (20)), (7, .int .i64 ((((20 * k) : Nat) : Int))), (8, .int .i64 ((((20 * k + 20) : Nat) : Int)))]) (fun ⟨k, ys⟩ wl0 => (20 * k ≤ n) ∧ (ys.length = n) ∧ (∀ q, ys.filter (eqv ltE q) = xs.filter (eqv ltE q)) ∧ (∀ q, q < k → Srt ltE noEdge (20 * q) (20 * q + 20) ys) ∧ Ch w wl0 (rowOf A c) ∧ w.heap.size ≤ wl0.heap.size ∧ OVec wl0 base 36 edgeV 9 A n c ys) (fun ⟨k, ys⟩ => n + 1 - 20 * k) (0, xs) ?_ ?_ ?_
  · exact .cons rfl (.cons rfl (.cons rfl (.cons rfl (.cons' rfl (int_eq (by omega)) (.cons' rfl (int_eq (by omega)) (.nil _))))))
  · exact ⟨by omega, hl, fun q => rfl, fun q hq => by omega, L0, Nat.le_refl _, hO⟩
  · rintro ⟨k, ys⟩ wl0 ⟨hk, hyl, hyf, hyb, Ll0, zl0, f0_0⟩
    refine WC.seq ?_
    refine WC.seq ?_
    refine WC.region ?_
    refine W.any (.move rfl) rfl rfl rfl ?_
    refine W.any (.move rfl) rfl rfl rfl ?_
    refine W.any (.leq rfl rfl) rfl rfl rfl ?_
    refine W.nil ?_
    refine E.thenN ?_
    by_cases c0 : (((20 * k + 20) : Nat) : Int) ≤ ((n : Nat) : Int)
    · refine WC.condY rfl (decide_eq_true c0) ?_
      refine WC.skip ?_
      refine E.thenN ?_
      refine WC.block ?_
      refine WC.seq ?_
      refine WC.region ?_
      refine W.any (.move rfl) rfl rfl rfl ?_
      refine W.any (.move rfl) rfl rfl rfl ?_
      refine W.any (.move rfl) rfl rfl rfl ?_
      refine W.any (.move rfl) rfl rfl rfl ?_
      refine W.ef rfl rfl rfl ?_
      refine Ef.call go91 rfl rfl (insort_ok (20 * k) (20 * k + 20) wl0 f0_0 (by omega) (by omega) (by omega)) ?_
      rintro _ w3_4 ⟨rfl, o3_4, h3_4⟩
      refine ⟨_, rfl, ?_⟩
      have L1 := Ll0.trans h3_4
      refine W.nil ?_
      refine E.thenN ?_
      refine WC.seq ?_
      refine WC.region ?_
      refine W.any (.move rfl) rfl rfl rfl ?_
      refine W.any (.assign rfl) rfl rfl rfl ?_
      refine W.nil ?_
      refine E.thenN ?_
      refine WC.region ?_
      refine W.any (.move rfl) rfl rfl rfl ?_
      refine W.any (.move rfl) rfl rfl rfl ?_
      refine W.any (.add rfl rfl (by omega)) rfl rfl rfl ?_
      refine W.any (.assign rfl) rfl rfl rfl ?_
      refine W.nil ?_
      refine E.blkN ?_
      refine E.again (k + 1, (isort (20 * k) (20 * k + 20) ys)) (.cons rfl (.cons rfl (.cons rfl (.cons rfl (.cons' rfl (int_eq (by omega)) (.cons' rfl (int_eq (by omega)) (.nil _))))))) ?_ ?_
      · exact ⟨by omega, by rw [isort_length]; exact hyl, fun q => ((isort_part (by omega) (by omega)).filt (by omega) (by omega) q).trans (hyf q), blk_next (isort_part (by omega) (by omega)) (by omega) hyb, L1, by have := zl0; have := h3_4.size; omega, o3_4⟩
      · first | omega | (simp only []; omega)
    · refine WC.condN rfl (decide_eq_false c0) ?_
      refine WC.exit ?_
      refine E.thenX ?_
      refine E.thenX ?_
      refine E.blkH ?_
      refine E.thenN ?_
      refine WC.seq ?_
      refine WC.region ?_
      refine W.any (.move rfl) rfl rfl rfl ?_
      refine W.any (.move rfl) rfl rfl rfl ?_
      refine W.any (.move rfl) rfl rfl rfl ?_
      refine W.any (.move rfl) rfl rfl rfl ?_
      refine W.ef rfl rfl rfl ?_
      refine Ef.call go91 rfl rfl (insort_ok (20 * k) n wl0 f0_0 (by omega) (by omega) (by omega)) ?_
      rintro _ w6_4 ⟨rfl, o6_4, h6_4⟩
      refine ⟨_, rfl, ?_⟩
      have L2 := Ll0.trans h6_4
      refine W.nil ?_
      refine E.thenN ?_
      refine WC.block ?_
      refine WC.loop (ι := Nat × (List Gsp.Edge)) (fun ⟨bs, ys1⟩ => [(0, .slice A n c), (1, .int .i64 (((n : Nat) : Int))), (2, .func (.func 37) #[] #[]), (6, .int .i64 (((bs : Nat) : Int)))]) (fun ⟨bs, ys1⟩ wl1 => (1 ≤ bs ∧ bs ≤ 2 * n + 20) ∧ (ys1.length = n) ∧ (∀ q, ys1.filter (eqv ltE q) = xs.filter (eqv ltE q)) ∧ (Blks ltE noEdge bs n ys1) ∧ Ch w wl1 (rowOf A c) ∧ w6_4.heap.size ≤ wl1.heap.size ∧ OVec wl1 base 36 edgeV 9 A n c ys1) (fun ⟨bs, ys1⟩ => n - bs) (20, (isort (20 * k) n ys)) ?_ ?_ ?_
      · exact .cons rfl (.cons rfl (.cons rfl (.cons rfl (.nil _))))
      · exact ⟨by omega, by rw [isort_length]; exact hyl, fun q => ((isort_part (by omega) (by omega)).filt (by omega) (by omega) q).trans (hyf q), blk_done (isort_part (by omega) (by omega)) (by omega) (by omega) (by omega) hyb, L2, Nat.le_refl _, o6_4⟩
      · rintro ⟨bs, ys1⟩ wl1 ⟨hbs, hl1, hf1, hblk, Ll1, zl1, f1_0⟩
        refine WC.seq ?_
        refine WC.seq ?_
        refine WC.region ?_
        refine W.any (.move rfl) rfl rfl rfl ?_
        refine W.any (.move rfl) rfl rfl rfl ?_
        refine W.any (.lss rfl rfl) rfl rfl rfl ?_
        refine W.nil ?_
        refine E.thenN ?_
        by_cases c1 : ((bs : Nat) : Int) < ((n : Nat) : Int)
        · refine WC.condY rfl (decide_eq_true c1) ?_
          refine WC.skip ?_
          refine E.thenN ?_
          refine WC.block ?_
          refine WC.seq ?_
          refine WC.region ?_
          refine W.any (.move rfl) rfl rfl rfl ?_
          refine W.any (.mul rfl rfl (by omega)) rfl rfl rfl ?_
          refine W.any (.assign rfl) rfl rfl rfl ?_
          refine W.any (.assign rfl) rfl rfl rfl ?_
          refine W.nil ?_
          refine E.thenN ?_
          refine WC.seq ?_
          refine WC.block ?_
          refine WC.loop (ι := Nat × Nat × (List Gsp.Edge)) (fun ⟨K, a2, ys2⟩ => [(0, .slice A n c), (1, .int .i64 (((n : Nat) : Int))), (2, .func (.func 37) #[] #[]), (6, .int .i64 (((bs : Nat) : Int))), (7, .int .i64 (((a2 : Nat) : Int))), (8, .int .i64 ((((a2 + 2 * bs) : Nat) : Int)))]) (fun ⟨K, a2, ys2⟩ wl2 => (a2 = K * (2 * bs)) ∧ (a2 ≤ n) ∧ (ys2.length = n) ∧ (∀ q, ys2.filter (eqv ltE q) = xs.filter (eqv ltE q)) ∧ (Half ltE noEdge bs K n ys2) ∧ Ch w wl2 (rowOf A c) ∧ wl1.heap.size ≤ wl2.heap.size ∧ OVec wl2 base 36 edgeV 9 A n c ys2) (fun ⟨K, a2, ys2⟩ => n + 1 - a2) (0, 0, ys1) ?_ ?_ ?_
          · exact .cons rfl (.cons rfl (.cons rfl (.cons rfl (.cons' rfl (int_eq (by omega)) (.cons' rfl (int_eq (by omega)) (.nil _))))))
          · exact ⟨by simp, Nat.zero_le _, hl1, hf1, Half.first hblk, Ll1, Nat.le_refl _, f1_0⟩
          · rintro ⟨K, a2, ys2⟩ wl2 ⟨ha2, ha3, hl2, hf2, hhf, Ll2, zl2, f2_0⟩
            refine WC.seq ?_
            refine WC.seq ?_
            refine WC.region ?_
            refine W.any (.move rfl) rfl rfl rfl ?_
            refine W.any (.move rfl) rfl rfl rfl ?_
            refine W.any (.leq rfl rfl) rfl rfl rfl ?_
            refine W.nil ?_
            refine E.thenN ?_
            by_cases c2 : (((a2 + 2 * bs) : Nat) : Int) ≤ ((n : Nat) : Int)
            · refine WC.condY rfl (decide_eq_true c2) ?_
              refine WC.skip ?_
              refine E.thenN ?_
              refine WC.block ?_
              refine WC.seq ?_
              refine WC.region ?_
              refine W.any (.move rfl) rfl rfl rfl ?_
              refine W.any (.move rfl) rfl rfl rfl ?_
              refine W.any (.move rfl) rfl rfl rfl ?_
              refine W.any (.move rfl) rfl rfl rfl ?_
              refine W.any (.as (.add rfl rfl (by omega)) (int_eq (b := (((a2 + bs) : Nat) : Int)) (by omega))) rfl rfl rfl ?_
              refine W.any (.move rfl) rfl rfl rfl ?_
              refine W.any (.move rfl) rfl rfl rfl ?_
              refine W.ef rfl rfl rfl ?_
              refine Ef.call go92 rfl rfl (symM_ok a2 (a2 + bs) (a2 + 2 * bs) wl2 f2_0 (by omega) (by omega) (by omega) (by omega) (by have hh := hhf.left (by rw [← ha2]; omega); rw [← ha2] at hh; exact hh) (by have hh := hhf.right; rw [← ha2, Nat.min_eq_left (by omega)] at hh; exact hh)) ?_
              rintro _ w10_7 ⟨rfl, zs10_7, hz10_7, o10_7, h10_7⟩
              refine ⟨_, rfl, ?_⟩
              have L3 := Ll2.trans h10_7
              have hzl10_7 := hz10_7.len
              refine W.nil ?_
              refine E.thenN ?_
              refine WC.seq ?_
              refine WC.region ?_
              refine W.any (.move rfl) rfl rfl rfl ?_
              refine W.any (.assign rfl) rfl rfl rfl ?_
              refine W.nil ?_
              refine E.thenN ?_
              refine WC.region ?_
              refine W.any (.move rfl) rfl rfl rfl ?_
              refine W.any (.move rfl) rfl rfl rfl ?_
              refine W.any (.mul rfl rfl (by omega)) rfl rfl rfl ?_
              refine W.any (.add rfl rfl (by omega)) rfl rfl rfl ?_
              refine W.any (.assign rfl) rfl rfl rfl ?_
              refine W.nil ?_
              refine E.blkN ?_
              refine E.again (K + 1, a2 + 2 * bs, zs10_7) (.cons rfl (.cons rfl (.cons rfl (.cons rfl (.cons rfl (.cons' rfl (int_eq (by omega)) (.nil _))))))) ?_ ?_
              · exact ⟨by rw [Nat.add_mul K 1, Nat.one_mul, ← ha2], by omega, by omega, fun q => (hz10_7.filt (by omega) (by omega) q).trans (hf2 q), hhf.next (by rw [← ha2]; omega) (by omega) (by rw [← ha2]; exact hz10_7), L3, by have := zl2; have := h10_7.size; omega, o10_7⟩
              · first | omega | (simp only []; omega)
            · refine WC.condN rfl (decide_eq_false c2) ?_
              refine WC.exit ?_
              refine E.thenX ?_
              refine E.thenX ?_
              refine E.blkH ?_
              refine E.thenN ?_
              refine WC.seq ?_
              refine WC.seq ?_
              refine WC.region ?_
              refine W.any (.move rfl) rfl rfl rfl ?_
              refine W.any (.move rfl) rfl rfl rfl ?_
              refine W.any (.as (.add rfl rfl (by omega)) (int_eq (b := (((a2 + bs) : Nat) : Int)) (by omega))) rfl rfl rfl ?_
              refine W.any (.assign rfl) rfl rfl rfl ?_
              refine W.nil ?_
              refine E.thenN ?_
              refine WC.seq ?_
              refine WC.region ?_
              refine W.any (.move rfl) rfl rfl rfl ?_
              refine W.any (.move rfl) rfl rfl rfl ?_
              refine W.any (.lss rfl rfl) rfl rfl rfl ?_
              refine W.nil ?_
              refine E.thenN ?_
              by_cases c3 : (((a2 + bs) : Nat) : Int) < ((n : Nat) : Int)
              · refine WC.condY rfl (decide_eq_true c3) ?_
                refine WC.region ?_
                refine W.any (.move rfl) rfl rfl rfl ?_
                refine W.any (.move rfl) rfl rfl rfl ?_
                refine W.any (.move rfl) rfl rfl rfl ?_
                refine W.any (.move rfl) rfl rfl rfl ?_
                refine W.any (.move rfl) rfl rfl rfl ?_
                refine W.ef rfl rfl rfl ?_
                refine Ef.call go92 rfl rfl (symM_ok a2 (a2 + bs) n wl2 f2_0 (by omega) (by omega) (by omega) (by omega) (by have hh := hhf.left (by rw [← ha2]; omega); rw [← ha2] at hh; exact hh) (by have hh := hhf.right; rw [← ha2, Nat.min_eq_right (by omega)] at hh; exact hh)) ?_
                rintro _ w15_5 ⟨rfl, zs15_5, hz15_5, o15_5, h15_5⟩
                refine ⟨_, rfl, ?_⟩
                have L4 := Ll2.trans h15_5
                have hzl15_5 := hz15_5.len
                refine W.nil ?_
                refine E.thenN ?_
                refine WC.region ?_
                refine W.any (.move rfl) rfl rfl rfl ?_
                refine W.any (.mul rfl rfl (by omega)) rfl rfl rfl ?_
                refine W.any (.assign rfl) rfl rfl rfl ?_
                refine W.nil ?_
                refine E.blkN ?_
                refine E.again (2 * bs, zs15_5) (.cons rfl (.cons rfl (.cons rfl (.cons' rfl (int_eq (by omega)) (.nil _))))) ?_ ?_
                · exact ⟨by omega, by omega, fun q => (hz15_5.filt (by omega) (by omega) q).trans (hf2 q), hhf.done (by rw [← ha2]; omega) (by rw [← ha2]; omega) (by omega) (by rw [← ha2]; exact hz15_5), L4, by have := zl1; have := h15_5.size; have := zl0; have := zl2; have := h6_4.size; omega, o15_5⟩
                · first | omega | (simp only []; omega)
              · refine WC.condN rfl (decide_eq_false c3) ?_
                have hrest : Part ltE noEdge a2 n ys2 ys2 := (by have hh := hhf.rest (by rw [← ha2]; omega) (by rw [← ha2]; omega) (by omega); rw [← ha2] at hh; exact hh)
                refine WC.skip ?_
                refine E.thenN ?_
                refine WC.region ?_
                refine W.any (.move rfl) rfl rfl rfl ?_
                refine W.any (.mul rfl rfl (by omega)) rfl rfl rfl ?_
                refine W.any (.assign rfl) rfl rfl rfl ?_
                refine W.nil ?_
                refine E.blkN ?_
                refine E.again (2 * bs, ys2) (.cons rfl (.cons rfl (.cons rfl (.cons' rfl (int_eq (by omega)) (.nil _))))) ?_ ?_
                · exact ⟨by omega, hl2, hf2, hhf.done (by rw [← ha2]; omega) (by rw [← ha2]; omega) (by omega) (by rw [← ha2]; exact hrest), Ll2, by have := zl1; have := zl0; have := zl2; have := h6_4.size; omega, f2_0⟩
                · first | omega | (simp only []; omega)
        · refine WC.condN rfl (decide_eq_false c1) ?_
          refine WC.exit ?_
          refine E.thenX ?_
          refine E.thenX ?_
          refine E.blkH ?_
          refine E.end_ ?_
          refine E.ret0 rfl ?_
          exact ⟨rfl, ys1, part_all hl1 hl hf1 (hblk.all (by omega)), f1_0, Ll1⟩

theorem sortS_ok {base : Nat} {A : Option Addr} {n c : Nat} {xs : List Gsp.Edge} (w : World) (hO : OVec w base 36 edgeV 9 A n c xs) (hn : n ≤ 1000000) : Calls Tryz.prog 39 #[.slice A n c, .func (.func 37) #[] #[]] w fun r w' => r = .returned (.tuple #[]) ∧ ∃ zs, Stab ltE xs zs ∧ OVec w' base 36 edgeV 9 A n c zs ∧ Ch w w' (rowOf A c) := by
  refine enter Tryz.func39 rfl rfl ?_
  have L0 := Ch.refl w (rowOf A c)
  refine WC.region ?_
  refine W.any (.move rfl) rfl rfl rfl ?_
  refine W.any (.move rfl) rfl rfl rfl ?_
  refine W.rd (.len Tryz.underlying44 rfl) rfl rfl rfl ?_
  refine W.any (.move rfl) rfl rfl rfl ?_
  refine W.ef rfl rfl rfl ?_
  refine Ef.call go72 rfl rfl (stable_ok w hO (by omega)) ?_
  rintro _ w0_4 ⟨rfl, zs0_4, hz0_4, o0_4, h0_4⟩
  refine ⟨_, rfl, ?_⟩
  have L1 := L0.trans h0_4
  refine W.nil ?_
  refine E.end_ ?_
  refine E.ret0 rfl ?_
  exact ⟨rfl, _, hz0_4, o0_4, L1⟩

theorem ofE_ok {A : Option Addr} {n c : Nat} {xs : List Gsp.Edge} (w : World) (hV : Vec w edgeV 9 A n xs) (hn : n ≤ 1000000) : Calls Tryz.prog 12 #[.slice A n c] w fun r w' => ∃ A' c' zs, r = .returned (.slice A' (xs.filter edgeOk).length c') ∧ Stab ltE (xs.filter edgeOk) zs ∧ OVec w' w.heap.size 36 edgeV 9 A' (xs.filter edgeOk).length c' zs ∧ Le w w' := by
  have hl := hV.1
  have hfl := List.length_filter_le edgeOk xs
  refine enter Tryz.func12 rfl rfl ?_
  have L0 := Le.refl w
  refine WC.seq ?_
  refine WC.region ?_
  refine W.any (.assign rfl) rfl rfl rfl ?_
  refine W.nil ?_
  refine E.thenN ?_
  refine WC.seq ?_
  refine WC.region ?_
  refine W.any (.move rfl) rfl rfl rfl ?_
  refine W.ef rfl rfl rfl ?_
  refine Ef.call go38 rfl rfl (those_ok edgeOk go36 w (hV.le L0) (by omega) (fun e w1 _ => edge_ok e w1)) ?_
  rintro _ w1_1 ⟨At1_1, ct1_1, rfl, ot1_1, h1_1⟩
  refine ⟨_, rfl, ?_⟩
  have L2 := L0.trans h1_1
  refine W.any (.assign rfl) rfl rfl rfl ?_
  refine W.nil ?_
  refine E.thenN ?_
  refine WC.seq ?_
  refine WC.region ?_
  refine W.any (.move rfl) rfl rfl rfl ?_
  refine W.ef rfl rfl rfl ?_
  refine Ef.call go39 rfl rfl (sortS_ok w1_1 ot1_1 (by omega)) ?_
  rintro _ w2_1 ⟨rfl, zs2_1, hz2_1, o2_1, h2_1⟩
  refine ⟨_, rfl, ?_⟩
  have L3 : Le w w2_1 := L2.then_ h2_1 (fun q hq => Nat.le_trans L0.size (ot1_1.row hq).1)
  refine W.nil ?_
  refine E.thenN ?_
  refine WC.seq ?_
  refine WC.region ?_
  refine W.any (.move rfl) rfl rfl rfl ?_
  refine W.any (.assign rfl) rfl rfl rfl ?_
  refine W.nil ?_
  refine E.thenN ?_
  refine WC.ret ?_
  refine E.retG1 rfl rfl ?_
  exact ⟨_, _, _, rfl, hz2_1, (o2_1.mono L0.size), L3⟩
end Go.Proofs.YtgpdfkplkaojcaaGreat

namespace Go.Proofs.YtgpdfkplkaojcaaGreat
open Go Go.Sx Go.Hsp Go.Num Go.Osp Go.Gsp Go.Asp
set_option maxRecDepth 20000
set_option linter.unusedSimpArgs false
set_option linter.unusedVariables false
def sigV (s : Asp.Sig) : List Value := [.int .u64 (s.r : Nat), .int .u64 (s.s : Nat)]
theorem sigV_row : RowF sigV 2 := ⟨fun _ => rfl, fun x v hv => by simp [sigV] at hv; rcases hv with rfl | rfl <;> rfl, by decide⟩
theorem allP_lt (l : List Nat) : allP l < 18446744073709551616 := by
  have key : ∀ (l : List Nat) (o : Nat), o < M → l.foldl (fun o p => o * taken p % M) o < M := by
    intro l
    induction l with
    | nil => intro o h; exact h
    | cons p l ih => intro o h; exact ih _ (Nat.mod_lt _ (by decide))
  exact Nat.lt_trans (key l 1 (by decide)) (by decide)
theorem allP_snoc {xs : List Nat} {k : Nat} (h : k < xs.length) : allP (xs.take (k + 1)) = allP (xs.take k) * taken (xs.getD k 0) % M := by
  rw [List.take_add_one, getS xs 0 h]
  simp [allP, -List.getD_eq_getElem?_getD]
theorem negP_lt (p : Nat) : negP p < 18446744073709551616 := Nat.lt_trans (pw_lt _ _ (by decide)) (by decide)
theorem scale_lt' (p k : Nat) : scale p k < 18446744073709551616 := Nat.lt_trans (scale_lt p k) (by decide)
theorem base_lt' (k : Nat) : base k < 18446744073709551616 := scale_lt' 4 k
theorem all3 {a b c T : Nat} (h1 : a < T) (h2 : b < T) (h3 : c < T) : ∀ x ∈ [a, b, c], x < T := by
  intro x hx
  simp only [List.mem_cons, List.not_mem_nil, or_false] at hx
  rcases hx with rfl | rfl | rfl <;> assumption
theorem seight_ok (m : Nat) (w : World) : Calls Tryz.prog 62 #[.int .u64 ((m : Nat) : Int)] w fun e w' => ∃ g, e = .returned (.slice (some ⟨g, 0, none⟩) 8 8) ∧ w.heap.size ≤ g ∧ Blk w' g 5 ((be8 m).map u8v).toArray ∧ Le w w' := by
  refine enter Tryz.func62 rfl rfl ?_
  have L0 := Le.refl w
  refine WC.seq ?_
  refine WC.region ?_
  refine W.any (.assign rfl) rfl rfl rfl ?_
  refine W.nil ?_
  refine E.thenN ?_
  refine WC.seq ?_
  refine WC.region ?_
  refine W.ef rfl rfl rfl ?_
  refine Ef.makeSlice 8 8 Tryz.underlying99 el5 rfl rfl rfl rfl (by decide) (by decide) (by decide) ?_
  intro g1_0 w1_0 hg1_0 b1_0 h1_0
  have L1_0 := L0.trans h1_0
  refine W.any (.assign rfl) rfl rfl rfl ?_
  refine W.nil ?_
  refine E.thenN ?_
  refine WC.seq ?_
  refine WC.seq ?_
  refine WC.region ?_
  refine W.any (.move rfl) rfl rfl rfl ?_
  refine W.rd (.len Tryz.underlying99 rfl) rfl rfl rfl ?_
  refine W.any (.move rfl) rfl rfl rfl ?_
  refine W.nil ?_
  refine E.thenN ?_
  refine WC.block ?_
  refine WC.loop (ι := Nat) (fun k => [(0, .int .u64 ((m : Nat) : Int)), (3, .slice (some ⟨g1_0, 0, none⟩) 8 8), (7, .int .i64 8), (8, .int .i64 (k : Int))]) (fun k wl => k ≤ 8 ∧ Le w wl ∧ Blk wl g1_0 5 (((be8To m k) ++ List.replicate (8 - k) 0#8).map u8v).toArray) (fun k => 8 - k) 0 ?_ ?_ ?_
  · exact .cons rfl (.cons rfl (.cons rfl (.cons rfl (.nil _))))
  · exact ⟨by omega, L1_0, b1_0.cast (made_u8 8)⟩
  · rintro k wl ⟨hk8, Ll, b1⟩
    have hbl : (be8To m k).length = k := by simp [be8To, be8_length]; omega
    refine WC.seq ?_
    refine WC.region ?_
    refine W.any (.lss rfl rfl) rfl rfl rfl ?_
    refine W.nil ?_
    refine E.thenN ?_
    refine WC.seq ?_
    refine WC.cond rfl (fun c0 => ?_) (fun c0 => ?_)
    · refine WC.skip ?_
      refine E.thenN ?_
      refine WC.seq ?_
      refine WC.block ?_
      refine WC.seq ?_
      refine WC.region ?_
      refine W.any (.move rfl) rfl rfl rfl ?_
      refine W.any (.assign rfl) rfl rfl rfl ?_
      refine W.nil ?_
      refine E.thenN ?_
      refine WC.region ?_
      refine W.any (.move rfl) rfl rfl rfl ?_
      refine W.any (.move rfl) rfl rfl rfl ?_
      refine W.any (.move rfl) rfl rfl rfl ?_
      refine W.any (.move rfl) rfl rfl rfl ?_
      refine W.any (.mul rfl rfl (by omega)) rfl rfl rfl ?_
      refine W.any (.sub rfl rfl (by omega)) rfl rfl rfl ?_
      refine W.any (.shrN m (56 - 8 * k) rfl rfl rfl (by omega) (by show 56 - 8 * k ≤ 64; omega)) rfl rfl rfl ?_
      refine W.rd (.toU8 (m >>> (56 - 8 * k)) (isS Tryz.underlying27) Tryz.underlying5 rfl rfl) rfl rfl rfl ?_
      refine W.any (.idxB1 (k) Tryz.underlying99 sz5 rfl rfl (rfl) (by omega)) rfl rfl rfl ?_
      refine W.ef0 rfl rfl ?_
      refine Ef.store sz5 rfl rfl (b1) (by simp; omega) (rfl) ?_
      intro w5_9 b5_9 h5_9
      have L5_9 : Le w w5_9 := Ll.then_ h5_9 (fun q hq => by cases hq; exact hg1_0)
      refine W.nil ?_
      refine E.blkN ?_
      refine E.thenN ?_
      refine WC.region ?_
      refine W.any (.add rfl rfl (by omega)) rfl rfl rfl ?_
      refine W.any (.move rfl) rfl rfl rfl ?_
      refine W.nil ?_
      refine E.again (k + 1) (.cons rfl (.cons rfl (.cons rfl (.cons rfl (.nil _))))) ?_ ?_
      · exact ⟨by omega, L5_9, b5_9.cast (by rw [fill_set u8v (be8To m k) 0#8 _ 8 k hbl (by omega), be8To_succ m k (by omega)])⟩
      · first | omega | (simp only []; omega)
    · have hk8 : k = 8 := by omega
      subst hk8
      have b1 : Blk wl g1_0 5 ((be8 m).map u8v).toArray := b1
      refine WC.exit ?_
      refine E.thenX ?_
      refine E.thenX ?_
      refine E.blkH ?_
      refine E.thenN ?_
      refine WC.seq ?_
      refine WC.region ?_
      refine W.any (.move rfl) rfl rfl rfl ?_
      refine W.any (.assign rfl) rfl rfl rfl ?_
      refine W.nil ?_
      refine E.thenN ?_
      refine WC.ret ?_
      refine E.ret1 rfl rfl ?_
      exact ⟨g1_0, rfl, hg1_0, b1, Ll⟩

theorem chal_ok (rr p : Nat) (m : List (BitVec 8)) (hm : m.length = 32) (w : World) : Calls Tryz.prog 83 #[.int .u64 (((rr : Nat) : Int)), .int .u64 (((p : Nat) : Int)), .agg (m.map u8v).toArray] w fun r w' => r = .returned (.int .u64 ((chalB rr p m : Nat) : Int)) ∧ Le w w' := by
  refine enter Tryz.func83 rfl rfl ?_
  have L0 := Le.refl w
  refine WC.seq ?_
  refine WC.region ?_
  refine W.ef rfl rfl rfl ?_
  refine Ef.boxA rfl ?_
  intro g0_0 w0_0 hg0_0 b0_0 h0_0
  have L1 := L0.trans h0_0
  have b0_0 : Blk w0_0 g0_0 61 (m.map u8v).toArray := b0_0
  refine W.any (.assign rfl) rfl rfl rfl ?_
  refine W.nil ?_
  refine E.thenN ?_
  refine WC.seq ?_
  refine WC.draw [0, 2, 4, 1, 3, 5, 6, 7, 8] mixed (by kernel_rfl) ?_
  intro w1 d1
  have L2 := L1.trans d1
  refine G.any rfl rfl (.move rfl) rfl rfl rfl ?_
  refine G.any rfl rfl (.move rfl) rfl rfl rfl ?_
  refine G.any rfl rfl (.cutArr Tryz.underlying61 sz5 rfl) rfl rfl rfl ?_
  refine G.ef rfl rfl rfl rfl rfl ?_
  refine Ef.call go62 rfl rfl (seight_ok rr w1) ?_
  rintro _ w1_1 ⟨g1_1, rfl, hg1_1, b1_1, h1_1⟩
  refine ⟨_, rfl, ?_⟩
  refine ⟨fun _ => h1_1, ?_⟩
  have L3 := L2.trans h1_1
  refine G.ef rfl rfl rfl rfl rfl ?_
  refine Ef.call go62 rfl rfl (seight_ok p w1_1) ?_
  rintro _ w1_3 ⟨g1_3, rfl, hg1_3, b1_3, h1_3⟩
  refine ⟨_, rfl, ?_⟩
  refine ⟨fun _ => h1_3, ?_⟩
  have L4 := L3.trans h1_3
  refine G.ef rfl rfl rfl rfl rfl ?_
  refine Ef.buildSliceN [_, _, _] Tryz.underlying134 el99 rfl (by intro v hv; simp at hv; rcases hv with rfl | rfl | rfl <;> rfl) rfl (by decide) (by decide) ?_
  intro g1_5 w1_5 hg1_5 b1_5 h1_5
  refine ⟨fun _ => h1_5, ?_⟩
  have L5 := L4.trans h1_5
  have b1_5 : Blk w1_5 g1_5 99 #[.slice (some ⟨g1_1, 0, none⟩) 8 8, .slice (some ⟨g1_3, 0, none⟩) 8 8, .slice (some ⟨g0_0, 0, none⟩) 32 32] := b1_5
  have f6 := (b1_1.le (h1_3.trans h1_5))
  have f7 := (b1_3.le h1_5)
  have f8 := (b0_0.le (d1.trans (h1_1.trans (h1_3.trans h1_5))))
  refine G.ef rfl rfl rfl rfl rfl ?_
  refine Ef.call go61 rfl rfl (tag_ok _ nSig w1_5 (ps := [be8 rr, be8 p, m]) rfl (b1_5.sl (s := 1) (n := 3) rfl) (.cons (f6.sb (be8_length _)) (.cons (f7.sb (be8_length _)) (.cons (f8.sb hm) (.nil _)))) (by rw [tagLen3, (be8_length _), (be8_length _), hm]; decide)) ?_
  rintro _ w1_6 ⟨rfl, h1_6⟩
  refine ⟨_, rfl, ?_⟩
  refine ⟨fun _ => h1_6, ?_⟩
  have L9 := L5.trans h1_6
  refine G.ef rfl rfl rfl rfl rfl ?_
  refine Ef.call go60 rfl rfl (from_ok (tag nSig [be8 rr, be8 p, m]) (tag_length _ _) w1_6) ?_
  rintro _ w1_7 ⟨rfl, h1_7⟩
  refine ⟨_, rfl, ?_⟩
  refine ⟨fun _ => h1_7, ?_⟩
  have L10 := L9.trans h1_7
  refine G.any rfl rfl (.assign rfl) rfl rfl rfl ?_
  refine G.nil ?_
  refine E.thenN ?_
  refine WC.ret ?_
  refine E.retG1 rfl rfl ?_
  exact ⟨rfl, L10⟩

theorem skey_ok (k : Nat) (w : World) : Calls Tryz.prog 58 #[.int .u64 (((k : Nat) : Int))] w fun r w' => r = .returned (.bool (keyB k)) ∧ Le w w' := by
  refine enter Tryz.func58 rfl rfl ?_
  have L0 := Le.refl w
  refine WC.seq ?_
  refine WC.region ?_
  refine W.any (.assign rfl) rfl rfl rfl ?_
  refine W.nil ?_
  refine E.thenN ?_
  refine WC.seq ?_
  refine WC.region ?_
  refine W.any (.move rfl) rfl rfl rfl ?_
  refine W.ef rfl rfl rfl ?_
  refine Ef.call go80 rfl rfl (fright_ok k w) ?_
  rintro _ w1_1 ⟨rfl, h1_1⟩
  refine ⟨_, rfl, ?_⟩
  have L1 := L0.trans h1_1
  by_cases q1_2 : k < q
  · refine W.any (.dec (.move rfl) (decide_eq_true q1_2)) rfl rfl rfl ?_
    refine W.rdg (Any.rd (.move rfl) _) rfl rfl rfl (rfl) rfl rfl ?_
    refine W.rdg (Any.rd (.neq rfl rfl) _) rfl rfl rfl (rfl) rfl rfl ?_
    refine W.any (.pickT rfl rfl rfl) rfl rfl rfl ?_
    refine W.any (.assign rfl) rfl rfl rfl ?_
    refine W.nil ?_
    refine E.thenN ?_
    refine WC.ret ?_
    refine E.retG1 rfl rfl ?_
    exact ⟨(by first | rfl | (simp [keyB, q1_2]; done) | (simp [keyB, q1_2]; omega) | (simp [keyB, q1_2]; split <;> first | (exfalso; omega) | (simp; done) | (simp; omega))), L1⟩
  · refine W.any (.dec (.move rfl) (decide_eq_false q1_2)) rfl rfl rfl ?_
    refine W.skip rfl rfl rfl (rfl) rfl rfl ?_
    refine W.skip rfl rfl rfl (rfl) rfl rfl ?_
    refine W.any (.pickF rfl rfl rfl) rfl rfl rfl ?_
    refine W.any (.assign rfl) rfl rfl rfl ?_
    refine W.nil ?_
    refine E.thenN ?_
    refine WC.ret ?_
    refine E.retG1 rfl rfl ?_
    exact ⟨(by first | rfl | (simp [keyB, q1_2]; done) | (simp [keyB, q1_2]; omega) | (simp [keyB, q1_2]; split <;> first | (exfalso; omega) | (simp; done) | (simp; omega))), L1⟩

theorem answer_ok (k n : Nat) (m : List (BitVec 8)) (hm : m.length = 32) (t : Nat) (ht : t < 18446744073709551616) (w : World) : Calls Tryz.prog 59 #[.int .u64 (((k : Nat) : Int)), .int .u64 (((n : Nat) : Int)), .agg (m.map u8v).toArray, .int .u64 (((t : Nat) : Int))] w fun r w' => r = .returned (.agg (sigV (ansB k n m t)).toArray) ∧ Le w w' := by
  refine enter Tryz.func59 rfl rfl ?_
  have L0 := Le.refl w
  refine WC.seq ?_
  refine WC.region ?_
  refine W.ef rfl rfl rfl ?_
  refine Ef.boxA rfl ?_
  intro g0_0 w0_0 hg0_0 b0_0 h0_0
  have L1 := L0.trans h0_0
  have b0_0 : Blk w0_0 g0_0 61 (m.map u8v).toArray := b0_0
  refine W.ef rfl rfl rfl ?_
  refine Ef.allocA z38 ?_
  intro g0_1 w0_1 hg0_1 b0_1 h0_1
  have L2 := L1.trans h0_1
  have b0_1 : Blk w0_1 g0_1 38 (sigV noSig).toArray := b0_1
  refine W.nil ?_
  refine E.thenN ?_
  refine WC.seq ?_
  refine WC.region ?_
  refine W.any (.move rfl) rfl rfl rfl ?_
  refine W.ef rfl rfl rfl ?_
  refine Ef.call go5 rfl rfl (base_ok n w0_1) ?_
  rintro _ w1_1 ⟨rfl, h1_1⟩
  refine ⟨_, rfl, ?_⟩
  have L3 := L2.trans h1_1
  refine W.any (.move rfl) rfl rfl rfl ?_
  refine W.ef rfl rfl rfl ?_
  refine Ef.call go75 rfl rfl (padd_ok (base n) t (base_lt' _) (by first | assumption | omega | decide) w1_1) ?_
  rintro _ w1_3 ⟨rfl, h1_3⟩
  refine ⟨_, rfl, ?_⟩
  have L4 := L3.trans h1_3
  refine W.any (.field0 fa38_0 rfl) rfl rfl rfl ?_
  have f5 := (b0_1.le (h1_1.trans h1_3))
  refine W.ef0 rfl rfl ?_
  refine Ef.store sz28 rfl rfl f5 (by first | decide | (simp; done) | simp [sigV_row.len]) (rfl) ?_
  intro w1_5 b1_5 h1_5
  have b1_5 : Blk w1_5 g0_1 38 (sigV (Asp.Sig.mk (addP (base n) t) 0)).toArray := b1_5
  have L6 : Le w w1_5 := L4.then_ h1_5 (fun q hq => by cases hq; exact Nat.le_trans L1.size hg0_1)
  refine W.nil ?_
  refine E.thenN ?_
  refine WC.seq ?_
  refine WC.draw [0, 1, 2, 3, 5, 7, 4, 6, 8, 9, 10, 11] mixed (by kernel_rfl) ?_
  intro w2 d2
  have L7 := L6.trans d2
  refine G.any rfl rfl (.move rfl) rfl rfl rfl ?_
  refine G.any rfl rfl (.field0 fa38_0 rfl) rfl rfl rfl ?_
  have f8 := (b1_5.le d2)
  refine G.rd rfl rfl (.loadB (v := .int .u64 (((addP (base n) t : Nat) : Int))) na28 rfl f8 rfl) rfl rfl rfl ?_
  refine G.any rfl rfl (.move rfl) rfl rfl rfl ?_
  have f9 := (((b0_0.le (h0_1.trans (h1_1.trans h1_3))).ch h1_5 (fun h => (show g0_1 ≠ g0_0 from by have := b0_0.lt; omega) (Option.some.inj h))).le d2)
  refine G.rd rfl rfl (.loadAll ag61 (by simp [hm]) rfl f9) rfl rfl rfl ?_
  refine G.any rfl rfl (.move rfl) rfl rfl rfl ?_
  refine G.ef rfl rfl rfl rfl rfl ?_
  refine Ef.call go5 rfl rfl (base_ok k w2) ?_
  rintro _ w2_4 ⟨rfl, h2_4⟩
  refine ⟨_, rfl, ?_⟩
  refine ⟨fun _ => h2_4, ?_⟩
  have L10 := L7.trans h2_4
  refine G.ef rfl rfl rfl rfl rfl ?_
  refine Ef.call go83 rfl rfl (chal_ok (addP (base n) t) (base k) m hm w2_4) ?_
  rintro _ w2_6 ⟨rfl, h2_6⟩
  refine ⟨_, rfl, ?_⟩
  refine ⟨fun _ => h2_6, ?_⟩
  have L11 := L10.trans h2_6
  refine G.ef rfl rfl rfl rfl rfl ?_
  refine Ef.call go82 rfl rfl (fmul_ok (chalB (addP (base n) t) (base k) m) k w2_6) ?_
  rintro _ w2_8 ⟨rfl, h2_8⟩
  refine ⟨_, rfl, ?_⟩
  refine ⟨fun _ => h2_8, ?_⟩
  have L12 := L11.trans h2_8
  refine G.ef rfl rfl rfl rfl rfl ?_
  refine Ef.call go81 rfl rfl (fadd_ok n (mulS (chalB (addP (base n) t) (base k) m) k) w2_8) ?_
  rintro _ w2_9 ⟨rfl, h2_9⟩
  refine ⟨_, rfl, ?_⟩
  refine ⟨fun _ => h2_9, ?_⟩
  have L13 := L12.trans h2_9
  refine G.any rfl rfl (.field0 fa38_1 rfl) rfl rfl rfl ?_
  have f14 := (f8.le (h2_4.trans (h2_6.trans (h2_8.trans h2_9))))
  refine G.ef0 rfl rfl rfl rfl ?_
  refine Ef.store sz30 rfl rfl f14 (by first | decide | (simp; done) | simp [sigV_row.len]) (rfl) ?_
  intro w2_11 b2_11 h2_11
  refine ⟨fun h => absurd h (ne_true_of_eq_false (by kernel_rfl)), ?_⟩
  have b2_11 : Blk w2_11 g0_1 38 (sigV (Asp.Sig.mk (addP (base n) t) (addS n (mulS (chalB (addP (base n) t) (base k) m) k)))).toArray := b2_11
  have L15 : Le w w2_11 := L13.then_ h2_11 (fun q hq => by cases hq; exact Nat.le_trans L1.size hg0_1)
  refine G.nil ?_
  refine E.thenN ?_
  refine WC.seq ?_
  refine WC.region ?_
  refine W.rd (.loadAll ag38 (by rfl) rfl b2_11) rfl rfl rfl ?_
  refine W.ef0 rfl rfl ?_
  refine Ef.storeAll sz38 (by rfl) rfl rfl b2_11 (by simp only [List.size_toArray, sigV_row.len]) (sigV_row.one (Asp.Sig.mk (addP (base n) t) (addS n (mulS (chalB (addP (base n) t) (base k) m) k)))) ?_
  intro w3_1 b3_1 h3_1
  have b3_1 : Blk w3_1 g0_1 38 (sigV (Asp.Sig.mk (addP (base n) t) (addS n (mulS (chalB (addP (base n) t) (base k) m) k)))).toArray := b3_1
  have L16 : Le w w3_1 := L15.then_ h3_1 (fun q hq => by cases hq; exact Nat.le_trans L1.size hg0_1)
  refine W.nil ?_
  refine E.thenN ?_
  refine WC.ret ?_
  refine E.retG1 rfl (resA rfl b3_1 ag38 (by rfl)) ?_
  exact ⟨by unfold ansB; rfl, L16⟩

theorem ssign_ok (k : Nat) (m : List (BitVec 8)) (hm : m.length = 32) (w : World) : Calls Tryz.prog 27 #[.int .u64 (((k : Nat) : Int)), .agg (m.map u8v).toArray] w fun r w' => r = .returned (.agg (sigV (signB k m)).toArray) ∧ Le w w' := by
  refine enter Tryz.func27 rfl rfl ?_
  have L0 := Le.refl w
  refine WC.seq ?_
  refine WC.region ?_
  refine W.ef rfl rfl rfl ?_
  refine Ef.boxA rfl ?_
  intro g0_0 w0_0 hg0_0 b0_0 h0_0
  have L1 := L0.trans h0_0
  have b0_0 : Blk w0_0 g0_0 61 (m.map u8v).toArray := b0_0
  refine W.ef rfl rfl rfl ?_
  refine Ef.allocA z38 ?_
  intro g0_1 w0_1 hg0_1 b0_1 h0_1
  have L2 := L1.trans h0_1
  have b0_1 : Blk w0_1 g0_1 38 (sigV noSig).toArray := b0_1
  refine W.nil ?_
  refine E.thenN ?_
  refine WC.seq ?_
  refine WC.seq ?_
  refine WC.region ?_
  refine W.any (.move rfl) rfl rfl rfl ?_
  refine W.ef rfl rfl rfl ?_
  refine Ef.call go58 rfl rfl (skey_ok k w0_1) ?_
  rintro _ w1_1 ⟨rfl, h1_1⟩
  refine ⟨_, rfl, ?_⟩
  have L3 := L2.trans h1_1
  refine W.any (.not rfl) rfl rfl rfl ?_
  refine W.nil ?_
  refine E.thenN ?_
  by_cases c0 : (keyB k) = true
  · refine WC.condN rfl (congrArg not (c0)) ?_
    refine WC.skip ?_
    refine E.thenN ?_
    refine WC.seq ?_
    refine WC.draw [0, 1, 3, 7, 2, 4, 5, 6, 8, 9] mixed (by kernel_rfl) ?_
    intro w3 d3
    have L4 := L3.trans d3
    refine G.any rfl rfl (.move rfl) rfl rfl rfl ?_
    refine G.any rfl rfl (.move rfl) rfl rfl rfl ?_
    refine G.any rfl rfl (.cutArr Tryz.underlying61 sz5 rfl) rfl rfl rfl ?_
    have f5 := (b0_0.le (h0_1.trans (h1_1.trans d3)))
    refine G.rd rfl rfl (.loadAll ag61 (by simp [hm]) rfl f5) rfl rfl rfl ?_
    refine G.ef rfl rfl rfl rfl rfl ?_
    refine Ef.call go62 rfl rfl (seight_ok k w3) ?_
    rintro _ w3_2 ⟨g3_2, rfl, hg3_2, b3_2, h3_2⟩
    refine ⟨_, rfl, ?_⟩
    refine ⟨fun _ => h3_2, ?_⟩
    have L6 := L4.trans h3_2
    refine G.ef rfl rfl rfl rfl rfl ?_
    refine Ef.buildSliceN [_, _] Tryz.underlying134 el99 rfl (by intro v hv; simp at hv; rcases hv with rfl | rfl <;> rfl) rfl (by decide) (by decide) ?_
    intro g3_4 w3_4 hg3_4 b3_4 h3_4
    refine ⟨fun _ => h3_4, ?_⟩
    have L7 := L6.trans h3_4
    have b3_4 : Blk w3_4 g3_4 99 #[.slice (some ⟨g3_2, 0, none⟩) 8 8, .slice (some ⟨g0_0, 0, none⟩) 32 32] := b3_4
    have f8 := (b3_2.le h3_4)
    have f9 := (f5.le (h3_2.trans h3_4))
    refine G.ef rfl rfl rfl rfl rfl ?_
    refine Ef.call go61 rfl rfl (tag_ok _ nNonce w3_4 (ps := [be8 k, m]) rfl (b3_4.sl (s := 1) (n := 2) rfl) (.cons (f8.sb (be8_length _)) (.cons (f9.sb hm) (.nil _))) (by rw [tagLen2, (be8_length _), hm]; decide)) ?_
    rintro _ w3_5 ⟨rfl, h3_5⟩
    refine ⟨_, rfl, ?_⟩
    refine ⟨fun _ => h3_5, ?_⟩
    have L10 := L7.trans h3_5
    refine G.ef rfl rfl rfl rfl rfl ?_
    refine Ef.call go60 rfl rfl (from_ok (tag nNonce [be8 k, m]) (tag_length _ _) w3_5) ?_
    rintro _ w3_6 ⟨rfl, h3_6⟩
    refine ⟨_, rfl, ?_⟩
    refine ⟨fun _ => h3_6, ?_⟩
    have L11 := L10.trans h3_6
    refine G.ef rfl rfl rfl rfl rfl ?_
    refine Ef.call go59 rfl rfl (answer_ok k (fromB (tag nNonce [be8 k, m])) m hm 1 (by first | assumption | omega | decide) w3_6) ?_
    rintro _ w3_8 ⟨rfl, h3_8⟩
    refine ⟨_, rfl, ?_⟩
    refine ⟨fun _ => h3_8, ?_⟩
    have L12 := L11.trans h3_8
    have f13 := (b0_1.le (h1_1.trans (d3.trans (h3_2.trans (h3_4.trans (h3_5.trans (h3_6.trans h3_8)))))))
    refine G.ef0 rfl rfl rfl rfl ?_
    refine Ef.storeAll sz38 (by rfl) rfl rfl f13 (by simp only [List.size_toArray, sigV_row.len]) (sigV_row.one (ansB k (fromB (tag nNonce [be8 k, m])) m 1)) ?_
    intro w3_9 b3_9 h3_9
    refine ⟨fun h => absurd h (ne_true_of_eq_false (by kernel_rfl)), ?_⟩
    have b3_9 : Blk w3_9 g0_1 38 (sigV (ansB k (fromB (tag nNonce [be8 k, m])) m 1)).toArray := b3_9
    have L14 : Le w w3_9 := L12.then_ h3_9 (fun q hq => by cases hq; exact Nat.le_trans L1.size hg0_1)
    refine G.nil ?_
    refine E.thenN ?_
    refine WC.ret ?_
    refine E.retG1 rfl (resA rfl b3_9 ag38 (by rfl)) ?_
    exact ⟨(by first | rfl | (simp [signB, nonceB, noSig, c0]; done) | (simp [signB, nonceB, noSig, c0]; omega) | (simp [signB, nonceB, noSig, c0]; split <;> first | (exfalso; omega) | (simp; done) | (simp; omega))), L14⟩
  · refine WC.condY rfl (congrArg not ((Bool.eq_false_iff.2 c0))) ?_
    refine WC.seq ?_
    refine WC.region ?_
    refine W.any (.buildP (sigV (⟨0, 0⟩)) pl38 z38 rfl rfl) rfl rfl rfl ?_
    have f15 := (b0_1.le h1_1)
    refine W.ef0 rfl rfl ?_
    refine Ef.storeAll sz38 (by rfl) rfl rfl f15 (by simp only [List.size_toArray, sigV_row.len]) (sigV_row.one (⟨0, 0⟩)) ?_
    intro w2_1 b2_1 h2_1
    have b2_1 : Blk w2_1 g0_1 38 (sigV (⟨0, 0⟩)).toArray := b2_1
    have L16 : Le w w2_1 := L3.then_ h2_1 (fun q hq => by cases hq; exact Nat.le_trans L1.size hg0_1)
    refine W.nil ?_
    refine E.thenN ?_
    refine WC.ret ?_
    refine E.thenR ?_
    refine E.retG1 rfl (resA rfl b2_1 ag38 (by rfl)) ?_
    exact ⟨(by first | rfl | (simp [signB, nonceB, noSig, c0]; done) | (simp [signB, nonceB, noSig, c0]; omega) | (simp [signB, nonceB, noSig, c0]; split <;> first | (exfalso; omega) | (simp; done) | (simp; omega))), L16⟩

theorem neg_ok (p : Nat) (hp : p < 18446744073709551616) (w : World) : Calls Tryz.prog 102 #[.int .u64 (((p : Nat) : Int))] w fun r w' => r = .returned (.int .u64 ((negP p : Nat) : Int)) ∧ Le w w' := by
  refine enter Tryz.func102 rfl rfl ?_
  have L0 := Le.refl w
  refine WC.seq ?_
  refine WC.region ?_
  refine W.any (.assign rfl) rfl rfl rfl ?_
  refine W.nil ?_
  refine E.thenN ?_
  refine WC.seq ?_
  refine WC.region ?_
  refine W.any (.move rfl) rfl rfl rfl ?_
  refine W.ef rfl rfl rfl ?_
  refine Ef.call go56 rfl rfl (taken_ok p (by first | assumption | omega | decide) w) ?_
  rintro _ w1_1 ⟨rfl, h1_1⟩
  refine ⟨_, rfl, ?_⟩
  have L1 := L0.trans h1_1
  refine W.ef rfl rfl rfl ?_
  refine Ef.call go55 rfl rfl (power_ok (taken p) 2305843009213688668 (taken_lt _) (by decide) w1_1) ?_
  rintro _ w1_2 ⟨rfl, h1_2⟩
  refine ⟨_, rfl, ?_⟩
  have L2 := L1.trans h1_2
  refine W.any (.assign rfl) rfl rfl rfl ?_
  refine W.nil ?_
  refine E.thenN ?_
  refine WC.ret ?_
  refine E.retG1 rfl rfl ?_
  exact ⟨rfl, L2⟩

theorem all_ok {A : Option Addr} {n c : Nat} {xs : List Nat} (w : World) (hV : Vec w pv1 1 A n xs) (hs : ∀ x ∈ xs, x < 18446744073709551616) (hn : n ≤ 1000000) : Calls Tryz.prog 94 #[.slice A n c] w fun r w' => r = .returned (.int .u64 ((allP xs : Nat) : Int)) ∧ Le w w' := by
  have hl := hV.1
  refine enter Tryz.func94 rfl rfl ?_
  have L0 := Le.refl w
  refine WC.seq ?_
  refine WC.region ?_
  refine W.any (.assign rfl) rfl rfl rfl ?_
  refine W.nil ?_
  refine E.thenN ?_
  refine WC.seq ?_
  refine WC.region ?_
  refine W.any (.assign rfl) rfl rfl rfl ?_
  refine W.nil ?_
  refine E.thenN ?_
  refine WC.seq ?_
  refine WC.seq ?_
  refine WC.region ?_
  refine W.any (.move rfl) rfl rfl rfl ?_
  refine W.rd (.len Tryz.underlying26 rfl) rfl rfl rfl ?_
  refine W.any (.move rfl) rfl rfl rfl ?_
  refine W.nil ?_
  refine E.thenN ?_
  refine WC.block ?_
  refine WC.loop (ι := Nat) (fun k => [(3, .int .u64 ((((allP (xs.take k)) : Nat) : Int))), (6, .slice A n c), (7, .int .i64 (((n : Nat) : Int))), (8, .int .i64 (((k : Nat) : Int)))]) (fun k wl0 => (k ≤ n) ∧ Le w wl0 ∧ w.heap.size ≤ wl0.heap.size) (fun k => n - k) 0 ?_ ?_ ?_
  · exact .cons rfl (.cons rfl (.cons rfl (.cons rfl (.nil _))))
  · exact ⟨Nat.zero_le _, L0, Nat.le_refl _⟩
  · rintro k wl0 ⟨hk, Ll0, zl0⟩
    refine WC.seq ?_
    refine WC.region ?_
    refine W.any (.lss rfl rfl) rfl rfl rfl ?_
    refine W.nil ?_
    refine E.thenN ?_
    refine WC.seq ?_
    by_cases c0 : ((k : Nat) : Int) < ((n : Nat) : Int)
    · refine WC.condY rfl (decide_eq_true c0) ?_
      refine WC.skip ?_
      refine E.thenN ?_
      refine WC.seq ?_
      refine WC.block ?_
      refine WC.seq ?_
      refine WC.region ?_
      refine W.any (.idxS (k) Tryz.underlying26 sz28 rfl rfl (hV.isSome pv1_row (by omega)) (rfl) (by omega)) rfl rfl rfl ?_
      refine W.rd (.vone (v := .int .u64 ((((xs.getD k 0) : Nat) : Int))) na28 rfl (hV.le Ll0) pv1_row (getS xs 0 (by first | omega | (simp only [List.length_cons, List.length_nil]; omega))) rfl) rfl rfl rfl ?_
      refine W.any (.assign rfl) rfl rfl rfl ?_
      refine W.nil ?_
      refine E.thenN ?_
      refine WC.region ?_
      refine W.any (.move rfl) rfl rfl rfl ?_
      refine W.any (.move rfl) rfl rfl rfl ?_
      refine W.ef rfl rfl rfl ?_
      refine Ef.call go56 rfl rfl (taken_ok (xs.getD k 0) (getD_lt hs (by decide) _) wl0) ?_
      rintro _ w5_2 ⟨rfl, h5_2⟩
      refine ⟨_, rfl, ?_⟩
      have L1 := Ll0.trans h5_2
      refine W.ef rfl rfl rfl ?_
      refine Ef.call go79 rfl rfl (times_ok (allP (xs.take k)) (taken (xs.getD k 0)) (allP_lt _) (taken_lt _) w5_2) ?_
      rintro _ w5_3 ⟨rfl, h5_3⟩
      refine ⟨_, rfl, ?_⟩
      have L2 := L1.trans h5_3
      refine W.any (.assign rfl) rfl rfl rfl ?_
      refine W.nil ?_
      refine E.blkN ?_
      refine E.thenN ?_
      refine WC.region ?_
      refine W.any (.add rfl rfl (by omega)) rfl rfl rfl ?_
      refine W.any (.move rfl) rfl rfl rfl ?_
      refine W.nil ?_
      refine E.again (k + 1) (.cons' rfl (int_eq (by rw [allP_snoc (by omega)])) (.cons rfl (.cons rfl (.cons rfl (.nil _))))) ?_ ?_
      · exact ⟨by omega, L2, by have := zl0; have := h5_2.size; have := h5_3.size; omega⟩
      · first | omega | (simp only []; omega)
    · refine WC.condN rfl (decide_eq_false c0) ?_
      refine WC.exit ?_
      refine E.thenX ?_
      refine E.thenX ?_
      refine E.blkH ?_
      refine E.thenN ?_
      refine WC.seq ?_
      refine WC.region ?_
      refine W.any (.move rfl) rfl rfl rfl ?_
      refine W.any (.assign rfl) rfl rfl rfl ?_
      refine W.nil ?_
      refine E.thenN ?_
      refine WC.ret ?_
      refine E.retG1 rfl rfl ?_
      exact ⟨by rw [List.take_of_length_le (by omega)], Ll0⟩

theorem checks_ok (p : Nat) (m : List (BitVec 8)) (hm : m.length = 32) (t : Nat) (s : Asp.Sig) (hp : p < 18446744073709551616) (ht : t < 18446744073709551616) (hr : s.r < 18446744073709551616) (w : World) : Calls Tryz.prog 87 #[.int .u64 (((p : Nat) : Int)), .agg (m.map u8v).toArray, .int .u64 (((t : Nat) : Int)), .agg (sigV s).toArray] w fun r w' => r = .returned (.bool (checksB p m t s)) ∧ Le w w' := by
  refine enter Tryz.func87 rfl rfl ?_
  have L0 := Le.refl w
  refine WC.seq ?_
  refine WC.region ?_
  refine W.ef rfl rfl rfl ?_
  refine Ef.boxA rfl ?_
  intro g0_0 w0_0 hg0_0 b0_0 h0_0
  have L1 := L0.trans h0_0
  have b0_0 : Blk w0_0 g0_0 61 (m.map u8v).toArray := b0_0
  refine W.ef rfl rfl rfl ?_
  refine Ef.boxA rfl ?_
  intro g0_1 w0_1 hg0_1 b0_1 h0_1
  have L2 := L1.trans h0_1
  have b0_1 : Blk w0_1 g0_1 38 (sigV s).toArray := b0_1
  refine W.any (.assign rfl) rfl rfl rfl ?_
  refine W.nil ?_
  refine E.thenN ?_
  refine WC.seq ?_
  refine WC.seq ?_
  refine WC.region ?_
  refine W.any (.move rfl) rfl rfl rfl ?_
  refine W.any (.eql rfl rfl) rfl rfl rfl ?_
  by_cases q1_2 : ((p : Nat) : Int) = 1
  · refine W.any (.dec (.move rfl) (decide_eq_true q1_2)) rfl rfl rfl ?_
    refine W.skip rfl rfl rfl (rfl) rfl rfl ?_
    refine W.skip rfl rfl rfl (rfl) rfl rfl ?_
    refine W.skip rfl rfl rfl (rfl) rfl rfl ?_
    refine W.any (.pickT rfl rfl rfl) rfl rfl rfl ?_
    refine W.any (.move rfl) rfl rfl rfl ?_
    refine W.skip rfl rfl rfl (rfl) rfl rfl ?_
    refine W.skip rfl rfl rfl (rfl) rfl rfl ?_
    refine W.skip rfl rfl rfl (rfl) rfl rfl ?_
    refine W.any (.pickT rfl rfl rfl) rfl rfl rfl ?_
    refine W.any (.move rfl) rfl rfl rfl ?_
    refine W.skip rfl rfl rfl (rfl) rfl rfl ?_
    refine W.skip rfl rfl rfl (rfl) rfl rfl ?_
    refine W.skip rfl rfl rfl (rfl) rfl rfl ?_
    refine W.skip rfl rfl rfl (rfl) rfl rfl ?_
    refine W.any (.pickT rfl rfl rfl) rfl rfl rfl ?_
    refine W.any (.move rfl) rfl rfl rfl ?_
    refine W.skip rfl rfl rfl (rfl) rfl rfl ?_
    refine W.skip rfl rfl rfl (rfl) rfl rfl ?_
    refine W.skip rfl rfl rfl (rfl) rfl rfl ?_
    refine W.skip rfl rfl rfl (rfl) rfl rfl ?_
    refine W.any (.pickT rfl rfl rfl) rfl rfl rfl ?_
    refine W.nil ?_
    refine E.thenN ?_
    refine WC.condT rfl ?_
    refine WC.seq ?_
    refine WC.region ?_
    refine W.any (.assign rfl) rfl rfl rfl ?_
    refine W.nil ?_
    refine E.thenN ?_
    refine WC.ret ?_
    refine E.thenR ?_
    refine E.retG1 rfl rfl ?_
    exact ⟨(by first | rfl | (simp [checksB, q1_2]; done) | (simp [checksB, q1_2]; omega) | (simp [checksB, q1_2]; split <;> first | (exfalso; omega) | (simp; done) | (simp; omega)) | (have hp1 : ¬ p = 1 := (by omega); simp [checksB, hp1, Int.natCast_inj, q1_2]; done)), L2⟩
  · refine W.any (.dec (.move rfl) (decide_eq_false q1_2)) rfl rfl rfl ?_
    refine W.rdg (Any.rd (.move rfl) _) rfl rfl rfl (rfl) rfl rfl ?_
    refine W.efg rfl rfl rfl (rfl) rfl rfl ?_
    refine Ef.call go46 rfl rfl (pright_ok p (by first | assumption | omega | decide) w0_1) ?_
    rintro _ w1_4 ⟨rfl, h1_4⟩
    refine ⟨_, rfl, ?_⟩
    have L3 := L2.trans h1_4
    refine W.rdg (Any.rd (.not rfl) _) rfl rfl rfl (rfl) rfl rfl ?_
    refine W.any (.pickF rfl rfl rfl) rfl rfl rfl ?_
    by_cases q1_7 : (right p) = true
    · refine W.any (.dec (.move rfl) (congrArg not (q1_7))) rfl rfl rfl ?_
      refine W.rdg (Any.rd (.move rfl) _) rfl rfl rfl (rfl) rfl rfl ?_
      refine W.efg rfl rfl rfl (rfl) rfl rfl ?_
      refine Ef.call go46 rfl rfl (pright_ok t (by first | assumption | omega | decide) w1_4) ?_
      rintro _ w1_9 ⟨rfl, h1_9⟩
      refine ⟨_, rfl, ?_⟩
      have L4 := L3.trans h1_9
      refine W.rdg (Any.rd (.not rfl) _) rfl rfl rfl (rfl) rfl rfl ?_
      refine W.any (.pickF rfl rfl rfl) rfl rfl rfl ?_
      by_cases q1_12 : (right t) = true
      · refine W.any (.dec (.move rfl) (congrArg not (q1_12))) rfl rfl rfl ?_
        refine W.rdg (Any.rd (.field0 fa38_0 rfl) _) rfl rfl rfl (rfl) rfl rfl ?_
        have f5 := (b0_1.le (h1_4.trans h1_9))
        refine W.rdg (.loadB (v := .int .u64 (((s.r : Nat) : Int))) na28 rfl f5 rfl) rfl rfl rfl (rfl) rfl rfl ?_
        refine W.efg rfl rfl rfl (rfl) rfl rfl ?_
        refine Ef.call go46 rfl rfl (pright_ok s.r (by first | assumption | omega | decide) w1_9) ?_
        rintro _ w1_15 ⟨rfl, h1_15⟩
        refine ⟨_, rfl, ?_⟩
        have L6 := L4.trans h1_15
        refine W.rdg (Any.rd (.not rfl) _) rfl rfl rfl (rfl) rfl rfl ?_
        refine W.any (.pickF rfl rfl rfl) rfl rfl rfl ?_
        by_cases q1_18 : (right s.r) = true
        · refine W.any (.dec (.move rfl) (congrArg not (q1_18))) rfl rfl rfl ?_
          refine W.rdg (Any.rd (.field0 fa38_1 rfl) _) rfl rfl rfl (rfl) rfl rfl ?_
          have f7 := (f5.le h1_15)
          refine W.rdg (.loadB (v := .int .u64 (((s.s : Nat) : Int))) na30 rfl f7 rfl) rfl rfl rfl (rfl) rfl rfl ?_
          refine W.efg rfl rfl rfl (rfl) rfl rfl ?_
          refine Ef.call go80 rfl rfl (fright_ok s.s w1_15) ?_
          rintro _ w1_21 ⟨rfl, h1_21⟩
          refine ⟨_, rfl, ?_⟩
          have L8 := L6.trans h1_21
          refine W.rdg (Any.rd (.not rfl) _) rfl rfl rfl (rfl) rfl rfl ?_
          refine W.any (.pickF rfl rfl rfl) rfl rfl rfl ?_
          refine W.nil ?_
          refine E.thenN ?_
          by_cases c0 : s.s < q
          · refine WC.condN rfl (congrArg not (decide_eq_true c0)) ?_
            refine WC.skip ?_
            refine E.thenN ?_
            refine WC.seq ?_
            refine WC.draw [0, 1, 2, 3, 4, 5, 6, 9, 7, 8, 10, 11, 12, 13] mixed (by kernel_rfl) ?_
            intro w3 d3
            have L9 := L8.trans d3
            refine G.any rfl rfl (.field0 fa38_0 rfl) rfl rfl rfl ?_
            have f10 := (f7.le (h1_21.trans d3))
            refine G.rd rfl rfl (.loadB (v := .int .u64 (((s.r : Nat) : Int))) na28 rfl f10 rfl) rfl rfl rfl ?_
            refine G.any rfl rfl (.move rfl) rfl rfl rfl ?_
            refine G.any rfl rfl (.field0 fa38_0 rfl) rfl rfl rfl ?_
            refine G.rd rfl rfl (.loadB (v := .int .u64 (((s.r : Nat) : Int))) na28 rfl f10 rfl) rfl rfl rfl ?_
            refine G.any rfl rfl (.move rfl) rfl rfl rfl ?_
            have f11 := (b0_0.le (h0_1.trans (h1_4.trans (h1_9.trans (h1_15.trans (h1_21.trans d3))))))
            refine G.rd rfl rfl (.loadAll ag61 (by simp [hm]) rfl f11) rfl rfl rfl ?_
            refine G.any rfl rfl (.move rfl) rfl rfl rfl ?_
            refine G.ef rfl rfl rfl rfl rfl ?_
            refine Ef.call go83 rfl rfl (chal_ok s.r p m hm w3) ?_
            rintro _ w3_7 ⟨rfl, h3_7⟩
            refine ⟨_, rfl, ?_⟩
            refine ⟨fun _ => h3_7, ?_⟩
            have L12 := L9.trans h3_7
            refine G.ef rfl rfl rfl rfl rfl ?_
            refine Ef.call go24 rfl rfl (scale_ok p (chalB s.r p m) (by first | assumption | omega | decide) w3_7) ?_
            rintro _ w3_8 ⟨rfl, h3_8⟩
            refine ⟨_, rfl, ?_⟩
            refine ⟨fun _ => h3_8, ?_⟩
            have L13 := L12.trans h3_8
            refine G.ef rfl rfl rfl rfl rfl ?_
            refine Ef.call go102 rfl rfl (neg_ok t (by first | assumption | omega | decide) w3_8) ?_
            rintro _ w3_10 ⟨rfl, h3_10⟩
            refine ⟨_, rfl, ?_⟩
            refine ⟨fun _ => h3_10, ?_⟩
            have L14 := L13.trans h3_10
            refine G.ef rfl rfl rfl rfl rfl ?_
            refine Ef.buildSliceV (len := 3) [_, _, _] Tryz.underlying26 el28 rfl (by simp [Value.cells]) rfl (by decide) (by decide) ?_
            intro g3_11 w3_11 hg3_11 b3_11 h3_11
            refine ⟨fun _ => h3_11, ?_⟩
            have L15 := L14.trans h3_11
            have b3_11 : Blk w3_11 g3_11 28 (([s.r, scale p (chalB s.r p m), negP t]).map pv1).flatten.toArray := b3_11
            have o3_11 : OVec w3_11 w3_10.heap.size 28 pv1 1 (some ⟨g3_11, 0, none⟩) 3 3 ([s.r, scale p (chalB s.r p m), negP t]) := b3_11.ovec hg3_11 pv1_row rfl rfl (by decide)
            refine G.ef rfl rfl rfl rfl rfl ?_
            refine Ef.call go94 rfl rfl (all_ok w3_11 o3_11.vec (all3 hr (scale_lt' _ _) (negP_lt _)) (by decide)) ?_
            rintro _ w3_12 ⟨rfl, h3_12⟩
            refine ⟨_, rfl, ?_⟩
            refine ⟨fun _ => h3_12, ?_⟩
            have L16 := L15.trans h3_12
            refine G.any rfl rfl (.assign rfl) rfl rfl rfl ?_
            refine G.nil ?_
            refine E.thenN ?_
            refine WC.seq ?_
            refine WC.region ?_
            refine W.any (.field0 fa38_1 rfl) rfl rfl rfl ?_
            have f17 := (f10.le (h3_7.trans (h3_8.trans (h3_10.trans (h3_11.trans h3_12)))))
            refine W.rd (.loadB (v := .int .u64 (((s.s : Nat) : Int))) na30 rfl f17 rfl) rfl rfl rfl ?_
            refine W.ef rfl rfl rfl ?_
            refine Ef.call go5 rfl rfl (base_ok s.s w3_12) ?_
            rintro _ w4_2 ⟨rfl, h4_2⟩
            refine ⟨_, rfl, ?_⟩
            have L18 := L16.trans h4_2
            refine W.any (.move rfl) rfl rfl rfl ?_
            refine W.any (.eql rfl rfl) rfl rfl rfl ?_
            refine W.any (.assign rfl) rfl rfl rfl ?_
            refine W.nil ?_
            refine E.thenN ?_
            refine WC.ret ?_
            refine E.retG1 rfl rfl ?_
            exact ⟨(by first | rfl | (simp [checksB, q1_2, q1_7, q1_12, q1_18, c0]; done) | (simp [checksB, q1_2, q1_7, q1_12, q1_18, c0]; omega) | (simp [checksB, q1_2, q1_7, q1_12, q1_18, c0]; split <;> first | (exfalso; omega) | (simp; done) | (simp; omega)) | (have hp1 : ¬ p = 1 := (by omega); simp [checksB, hp1, Int.natCast_inj, q1_2, q1_7, q1_12, q1_18, c0]; done)), L18⟩
          · refine WC.condY rfl (congrArg not (decide_eq_false c0)) ?_
            refine WC.seq ?_
            refine WC.region ?_
            refine W.any (.assign rfl) rfl rfl rfl ?_
            refine W.nil ?_
            refine E.thenN ?_
            refine WC.ret ?_
            refine E.thenR ?_
            refine E.retG1 rfl rfl ?_
            exact ⟨(by first | rfl | (simp [checksB, q1_2, q1_7, q1_12, q1_18, c0]; done) | (simp [checksB, q1_2, q1_7, q1_12, q1_18, c0]; omega) | (simp [checksB, q1_2, q1_7, q1_12, q1_18, c0]; split <;> first | (exfalso; omega) | (simp; done) | (simp; omega)) | (have hp1 : ¬ p = 1 := (by omega); simp [checksB, hp1, Int.natCast_inj, q1_2, q1_7, q1_12, q1_18, c0]; done)), L8⟩
        · refine W.any (.dec (.move rfl) (congrArg not ((Bool.eq_false_iff.2 q1_18)))) rfl rfl rfl ?_
          refine W.skip rfl rfl rfl (rfl) rfl rfl ?_
          refine W.skip rfl rfl rfl (rfl) rfl rfl ?_
          refine W.skip rfl rfl rfl (rfl) rfl rfl ?_
          refine W.skip rfl rfl rfl (rfl) rfl rfl ?_
          refine W.any (.pickT rfl rfl rfl) rfl rfl rfl ?_
          refine W.nil ?_
          refine E.thenN ?_
          refine WC.condT rfl ?_
          refine WC.seq ?_
          refine WC.region ?_
          refine W.any (.assign rfl) rfl rfl rfl ?_
          refine W.nil ?_
          refine E.thenN ?_
          refine WC.ret ?_
          refine E.thenR ?_
          refine E.retG1 rfl rfl ?_
          exact ⟨(by first | rfl | (simp [checksB, q1_2, q1_7, q1_12, q1_18]; done) | (simp [checksB, q1_2, q1_7, q1_12, q1_18]; omega) | (simp [checksB, q1_2, q1_7, q1_12, q1_18]; split <;> first | (exfalso; omega) | (simp; done) | (simp; omega)) | (have hp1 : ¬ p = 1 := (by omega); simp [checksB, hp1, Int.natCast_inj, q1_2, q1_7, q1_12, q1_18]; done)), L6⟩
      · refine W.any (.dec (.move rfl) (congrArg not ((Bool.eq_false_iff.2 q1_12)))) rfl rfl rfl ?_
        refine W.skip rfl rfl rfl (rfl) rfl rfl ?_
        refine W.skip rfl rfl rfl (rfl) rfl rfl ?_
        refine W.skip rfl rfl rfl (rfl) rfl rfl ?_
        refine W.skip rfl rfl rfl (rfl) rfl rfl ?_
        refine W.any (.pickT rfl rfl rfl) rfl rfl rfl ?_
        refine W.any (.move rfl) rfl rfl rfl ?_
        refine W.skip rfl rfl rfl (rfl) rfl rfl ?_
        refine W.skip rfl rfl rfl (rfl) rfl rfl ?_
        refine W.skip rfl rfl rfl (rfl) rfl rfl ?_
        refine W.skip rfl rfl rfl (rfl) rfl rfl ?_
        refine W.any (.pickT rfl rfl rfl) rfl rfl rfl ?_
        refine W.nil ?_
        refine E.thenN ?_
        refine WC.condT rfl ?_
        refine WC.seq ?_
        refine WC.region ?_
        refine W.any (.assign rfl) rfl rfl rfl ?_
        refine W.nil ?_
        refine E.thenN ?_
        refine WC.ret ?_
        refine E.thenR ?_
        refine E.retG1 rfl rfl ?_
        exact ⟨(by first | rfl | (simp [checksB, q1_2, q1_7, q1_12]; done) | (simp [checksB, q1_2, q1_7, q1_12]; omega) | (simp [checksB, q1_2, q1_7, q1_12]; split <;> first | (exfalso; omega) | (simp; done) | (simp; omega)) | (have hp1 : ¬ p = 1 := (by omega); simp [checksB, hp1, Int.natCast_inj, q1_2, q1_7, q1_12]; done)), L4⟩
    · refine W.any (.dec (.move rfl) (congrArg not ((Bool.eq_false_iff.2 q1_7)))) rfl rfl rfl ?_
      refine W.skip rfl rfl rfl (rfl) rfl rfl ?_
      refine W.skip rfl rfl rfl (rfl) rfl rfl ?_
      refine W.skip rfl rfl rfl (rfl) rfl rfl ?_
      refine W.any (.pickT rfl rfl rfl) rfl rfl rfl ?_
      refine W.any (.move rfl) rfl rfl rfl ?_
      refine W.skip rfl rfl rfl (rfl) rfl rfl ?_
      refine W.skip rfl rfl rfl (rfl) rfl rfl ?_
      refine W.skip rfl rfl rfl (rfl) rfl rfl ?_
      refine W.skip rfl rfl rfl (rfl) rfl rfl ?_
      refine W.any (.pickT rfl rfl rfl) rfl rfl rfl ?_
      refine W.any (.move rfl) rfl rfl rfl ?_
      refine W.skip rfl rfl rfl (rfl) rfl rfl ?_
      refine W.skip rfl rfl rfl (rfl) rfl rfl ?_
      refine W.skip rfl rfl rfl (rfl) rfl rfl ?_
      refine W.skip rfl rfl rfl (rfl) rfl rfl ?_
      refine W.any (.pickT rfl rfl rfl) rfl rfl rfl ?_
      refine W.nil ?_
      refine E.thenN ?_
      refine WC.condT rfl ?_
      refine WC.seq ?_
      refine WC.region ?_
      refine W.any (.assign rfl) rfl rfl rfl ?_
      refine W.nil ?_
      refine E.thenN ?_
      refine WC.ret ?_
      refine E.thenR ?_
      refine E.retG1 rfl rfl ?_
      exact ⟨(by first | rfl | (simp [checksB, q1_2, q1_7]; done) | (simp [checksB, q1_2, q1_7]; omega) | (simp [checksB, q1_2, q1_7]; split <;> first | (exfalso; omega) | (simp; done) | (simp; omega)) | (have hp1 : ¬ p = 1 := (by omega); simp [checksB, hp1, Int.natCast_inj, q1_2, q1_7]; done)), L3⟩

theorem verify_ok (p : Nat) (m : List (BitVec 8)) (hm : m.length = 32) (s : Asp.Sig) (hp : p < 18446744073709551616) (hr : s.r < 18446744073709551616) (w : World) : Calls Tryz.prog 66 #[.int .u64 (((p : Nat) : Int)), .agg (m.map u8v).toArray, .agg (sigV s).toArray] w fun r w' => r = .returned (.bool (verifyB p m s)) ∧ Le w w' := by
  refine enter Tryz.func66 rfl rfl ?_
  have L0 := Le.refl w
  refine WC.seq ?_
  refine WC.region ?_
  refine W.ef rfl rfl rfl ?_
  refine Ef.boxA rfl ?_
  intro g0_0 w0_0 hg0_0 b0_0 h0_0
  have L1 := L0.trans h0_0
  have b0_0 : Blk w0_0 g0_0 61 (m.map u8v).toArray := b0_0
  refine W.ef rfl rfl rfl ?_
  refine Ef.boxA rfl ?_
  intro g0_1 w0_1 hg0_1 b0_1 h0_1
  have L2 := L1.trans h0_1
  have b0_1 : Blk w0_1 g0_1 38 (sigV s).toArray := b0_1
  refine W.any (.assign rfl) rfl rfl rfl ?_
  refine W.nil ?_
  refine E.thenN ?_
  refine WC.seq ?_
  refine WC.region ?_
  refine W.any (.move rfl) rfl rfl rfl ?_
  have f3 := (b0_0.le h0_1)
  refine W.rd (.loadAll ag61 (by simp [hm]) rfl f3) rfl rfl rfl ?_
  refine W.rd (.loadAll ag38 (by rfl) rfl b0_1) rfl rfl rfl ?_
  refine W.ef rfl rfl rfl ?_
  refine Ef.call go87 rfl rfl (checks_ok p m hm 1 s (by first | assumption | omega | decide) (by first | assumption | omega | decide) hr w0_1) ?_
  rintro _ w1_3 ⟨rfl, h1_3⟩
  refine ⟨_, rfl, ?_⟩
  have L4 := L2.trans h1_3
  refine W.any (.assign rfl) rfl rfl rfl ?_
  refine W.nil ?_
  refine E.thenN ?_
  refine WC.ret ?_
  refine E.retG1 rfl rfl ?_
  exact ⟨rfl, L4⟩
end Go.Proofs.YtgpdfkplkaojcaaGreat

namespace Go.Proofs.YtgpdfkplkaojcaaGreat
open Go Go.Sx Go.Hsp Go.Num Go.Osp Go.Gsp Go.Asp
set_option maxRecDepth 20000
set_option linter.unusedSimpArgs false
set_option linter.unusedVariables false
theorem len_snoc (xs : List (BitVec 8)) (b : BitVec 8) : xs.length + 1 = (xs ++ [b]).length := by simp
theorem rowN_pos (n : Nat) : 0 < (rowN n).length := by rw [rowN]; split <;> simp
theorem rowN_end {n : Nat} (h : n < 128) : rowN n = [BitVec.ofNat 8 n] := by rw [rowN, dif_pos h]
theorem rowN_more {n : Nat} (h : ¬ n < 128) : rowN n = BitVec.ofNat 8 (n % 128 + 128) :: rowN (n / 128) := by rw [rowN, dif_neg h]
theorem laid_ok {A B : Option Addr} {n m c d : Nat} {xs ys : List (BitVec 8)} (w : World) (hV : Vec w byteV 1 A n xs) (hn : n ≤ 100000) (hU : Vec w byteV 1 B m ys) (hm : m ≤ 100000) (h0 : 0 < m) : Calls Tryz.prog 85 #[.slice A n c, .slice B m d] w fun r w' => ∃ A' c', r = .returned (.slice A' (xs ++ ys).length c') ∧ OVec w' w.heap.size 5 byteV 1 A' (xs ++ ys).length c' (xs ++ ys) ∧ Le w w' := by
  have hl := hV.1
  have hl2 := hU.1
  refine enter Tryz.func85 rfl rfl ?_
  have L0 := Le.refl w
  refine WC.seq ?_
  refine WC.region ?_
  refine W.any (.assign rfl) rfl rfl rfl ?_
  refine W.nil ?_
  refine E.thenN ?_
  refine WC.seq ?_
  refine WC.region ?_
  refine W.any (.move rfl) rfl rfl rfl ?_
  refine W.any (.move rfl) rfl rfl rfl ?_
  refine W.ef rfl rfl rfl ?_
  refine Ef.buildSliceN [_, _] Tryz.underlying134 el99 rfl (by intro v hv; simp at hv; rcases hv with rfl | rfl <;> rfl) rfl (by decide) (by decide) ?_
  intro g1_2 w1_2 hg1_2 b1_2 h1_2
  have L1 := L0.trans h1_2
  have b1_2 : Blk w1_2 g1_2 99 #[.slice A n c, .slice B m d] := b1_2
  refine W.ef rfl rfl rfl ?_
  refine Ef.call go101 rfl rfl (concat_ok w1_2 (b1_2.sl (s := 1) (n := 2) rfl) (.cons (byte_sb (hV.le L1)) (.cons (byte_sb (hU.le L1)) (.nil _))) (by simp; omega) (by simp; omega) (by decide)) ?_
  rintro _ w1_3 ⟨Ag1_3, cg1_3, rfl, ou1_3, h1_3⟩
  refine ⟨_, rfl, ?_⟩
  have L2 := L1.trans h1_3
  have o1_3 := byte_ovec ou1_3
  refine W.any (.assign rfl) rfl rfl rfl ?_
  refine W.nil ?_
  refine E.thenN ?_
  refine WC.ret ?_
  refine E.retG1 rfl rfl ?_
  exact ⟨_, _, by simp only [List.flatten_cons, List.flatten_nil, List.append_nil], (o1_3.mono L1.size).cast (by simp) (by simp), L2⟩

theorem row_ok (n : Nat) (hn : n ≤ 9223372036854775807) (w : World) : Calls Tryz.prog 86 #[.int .i64 (((n : Nat) : Int))] w fun r w' => ∃ A' c', r = .returned (.slice A' (rowN n).length c') ∧ OVec w' w.heap.size 5 byteV 1 A' (rowN n).length c' (rowN n) ∧ Le w w' := by
  have hrl := rowN_length n (by omega)
  refine enter Tryz.func86 rfl rfl ?_
  have L0 := Le.refl w
  refine WC.seq ?_
  refine WC.region ?_
  refine W.any (.assign rfl) rfl rfl rfl ?_
  refine W.nil ?_
  refine E.thenN ?_
  refine WC.seq ?_
  refine WC.region ?_
  refine W.any (.assign rfl) rfl rfl rfl ?_
  refine W.nil ?_
  refine E.thenN ?_
  refine WC.seq ?_
  refine WC.block ?_
  refine WC.loop (ι := Nat × (List (BitVec 8)) × (Option Addr) × Nat) (fun ⟨a, xs, Aa, ca⟩ => [(0, .int .i64 (((a : Nat) : Int))), (3, .slice Aa xs.length ca)]) (fun ⟨a, xs, Aa, ca⟩ wl0 => (a ≤ n) ∧ (xs ++ rowN a = rowN n) ∧ Le w wl0 ∧ w.heap.size ≤ wl0.heap.size ∧ OVec wl0 w.heap.size 5 byteV 1 Aa xs.length ca xs) (fun ⟨a, xs, Aa, ca⟩ => a) (n, [], none, 0) ?_ ?_ ?_
  · exact .cons rfl (.cons rfl (.nil _))
  · exact ⟨Nat.le_refl _, rfl, L0, Nat.le_refl _, (OVec.nil w w.heap.size 5 byteV 1 none)⟩
  · rintro ⟨a, xs, Aa, ca⟩ wl0 ⟨ha, hx, Ll0, zl0, f0_0⟩
    have lb0_1 : w.heap.size ≤ wl0.heap.size := by omega
    have hxl : xs.length + (rowN a).length = (rowN n).length := by rw [← hx, List.length_append]
    have hrp := rowN_pos a
    refine WC.seq ?_
    refine WC.seq ?_
    refine WC.region ?_
    refine W.any (.move rfl) rfl rfl rfl ?_
    refine W.any (.geq rfl rfl) rfl rfl rfl ?_
    refine W.nil ?_
    refine E.thenN ?_
    by_cases c0 : 128 ≤ ((a : Nat) : Int)
    · refine WC.condY rfl (decide_eq_true c0) ?_
      refine WC.skip ?_
      refine E.thenN ?_
      refine WC.seq ?_
      refine WC.block ?_
      refine WC.region ?_
      refine W.any (.move rfl) rfl rfl rfl ?_
      refine W.any (.move rfl) rfl rfl rfl ?_
      refine W.any (.rem rfl rfl (by omega)) rfl rfl rfl ?_
      refine W.any (.add rfl rfl (by omega)) rfl rfl rfl ?_
      refine W.rd (.toU8 ((a % 128) + 128) (isS Tryz.underlying3) Tryz.underlying5 rfl (by omega)) rfl rfl rfl ?_
      refine W.ef rfl rfl rfl ?_
      refine Ef.buildSliceV (len := 1) [_] Tryz.underlying99 el5 rfl (by simp [Value.cells, u8v]) rfl (by decide) (by decide) ?_
      intro g4_5 w4_5 hg4_5 b4_5 h4_5
      have L1 := Ll0.trans h4_5
      have b4_5 : Blk w4_5 g4_5 5 (([BitVec.ofNat 8 ((a % 128) + 128)]).map byteV).flatten.toArray := b4_5
      have o4_5 : OVec w4_5 wl0.heap.size 5 byteV 1 (some ⟨g4_5, 0, none⟩) 1 1 ([BitVec.ofNat 8 ((a % 128) + 128)]) := b4_5.ovec hg4_5 byteV_row rfl rfl (by decide)
      have f2 := (f0_0.le h4_5)
      refine W.ef rfl rfl rfl ?_
      refine Ef.vpush (a := (BitVec.ofNat 8 ((a % 128) + 128))) Tryz.underlying99 el5 Tryz.underlying99 byteV_row rfl f2 rfl b4_5 (by omega) (by unfold maxLen; omega) (by have := lb0_1; have := h4_5.size; omega) ?_
      intro A4_6 c4_6 w4_6 o4_6 h4_6 at4_6
      have L3 : Le w w4_6 := L1.then_ h4_6 (fun q hq => Nat.le_trans L0.size (f2.row hq).1)
      refine W.any (.assign rfl) rfl rfl rfl ?_
      refine W.nil ?_
      refine E.blkN ?_
      refine E.thenN ?_
      refine WC.region ?_
      refine W.any (.move rfl) rfl rfl rfl ?_
      refine W.any (.quo rfl rfl (by omega)) rfl rfl rfl ?_
      refine W.any (.assign rfl) rfl rfl rfl ?_
      refine W.nil ?_
      refine E.again (a / 128, (xs ++ [BitVec.ofNat 8 (a % 128 + 128)]), A4_6, c4_6) (.cons' rfl (int_eq (by omega)) (.cons' rfl (slice_eq (len_snoc xs (BitVec.ofNat 8 (a % 128 + 128)))) (.nil _))) ?_ ?_
      · exact ⟨by omega, by rw [← hx, rowN_more (n := a) (by omega)]; simp, L3, by have := zl0; have := h4_5.size; have := h4_6.size; omega, (o4_6.cast (len_snoc xs (BitVec.ofNat 8 (a % 128 + 128))) rfl)⟩
      · first | omega | (simp only []; omega)
    · refine WC.condN rfl (decide_eq_false c0) ?_
      refine WC.exit ?_
      refine E.thenX ?_
      refine E.thenX ?_
      refine E.blkH ?_
      refine E.thenN ?_
      refine WC.seq ?_
      refine WC.region ?_
      refine W.any (.move rfl) rfl rfl rfl ?_
      refine W.any (.move rfl) rfl rfl rfl ?_
      refine W.rd (.toU8 a (isS Tryz.underlying3) Tryz.underlying5 rfl rfl) rfl rfl rfl ?_
      refine W.ef rfl rfl rfl ?_
      refine Ef.buildSliceV (len := 1) [_] Tryz.underlying99 el5 rfl (by simp [Value.cells, u8v]) rfl (by decide) (by decide) ?_
      intro g5_3 w5_3 hg5_3 b5_3 h5_3
      have L4 := Ll0.trans h5_3
      have b5_3 : Blk w5_3 g5_3 5 (([BitVec.ofNat 8 a]).map byteV).flatten.toArray := b5_3
      have o5_3 : OVec w5_3 wl0.heap.size 5 byteV 1 (some ⟨g5_3, 0, none⟩) 1 1 ([BitVec.ofNat 8 a]) := b5_3.ovec hg5_3 byteV_row rfl rfl (by decide)
      have f5 := (f0_0.le h5_3)
      refine W.ef rfl rfl rfl ?_
      refine Ef.vpush (a := (BitVec.ofNat 8 a)) Tryz.underlying99 el5 Tryz.underlying99 byteV_row rfl f5 rfl b5_3 (by omega) (by unfold maxLen; omega) (by have := lb0_1; have := h5_3.size; omega) ?_
      intro A5_4 c5_4 w5_4 o5_4 h5_4 at5_4
      have L6 : Le w w5_4 := L4.then_ h5_4 (fun q hq => Nat.le_trans L0.size (f5.row hq).1)
      refine W.any (.assign rfl) rfl rfl rfl ?_
      refine W.nil ?_
      refine E.thenN ?_
      refine WC.ret ?_
      refine E.retG1 rfl rfl ?_
      have hend : xs ++ [BitVec.ofNat 8 a] = rowN n := by rw [← hx, rowN_end (n := a) (by omega)]
      exact ⟨_, _, by rw [← hend, List.length_append]; rfl, (o5_4.mono L0.size).cast (by rw [← hend, List.length_append]; rfl) hend, L6⟩

theorem put_ok (i : Nat) (hi : i ≤ 9223372036854775807) {A : Option Addr} {n c : Nat} {xs : List (BitVec 8)} (w : World) (hV : Vec w byteV 1 A n xs) (hn : n ≤ 100000) : Calls Tryz.prog 63 #[.slice A n c, .int .i64 (((i : Nat) : Int))] w fun r w' => ∃ A' c', r = .returned (.slice A' (xs ++ rowN i).length c') ∧ OVec w' w.heap.size 5 byteV 1 A' (xs ++ rowN i).length c' (xs ++ rowN i) ∧ Le w w' := by
  have hl := hV.1
  refine enter Tryz.func63 rfl rfl ?_
  have L0 := Le.refl w
  refine WC.seq ?_
  refine WC.region ?_
  refine W.any (.assign rfl) rfl rfl rfl ?_
  refine W.nil ?_
  refine E.thenN ?_
  refine WC.seq ?_
  refine WC.seq ?_
  refine WC.region ?_
  refine W.any (.move rfl) rfl rfl rfl ?_
  refine W.any (.lss rfl rfl) rfl rfl rfl ?_
  refine W.nil ?_
  refine E.thenN ?_
  refine WC.condN rfl (decide_eq_false (by omega)) ?_
  refine WC.skip ?_
  refine E.thenN ?_
  refine WC.seq ?_
  refine WC.region ?_
  refine W.any (.move rfl) rfl rfl rfl ?_
  refine W.any (.move rfl) rfl rfl rfl ?_
  refine W.ef rfl rfl rfl ?_
  refine Ef.call go86 rfl rfl (row_ok i (by omega) w) ?_
  rintro _ w3_2 ⟨Ag3_2, cg3_2, rfl, o3_2, h3_2⟩
  refine ⟨_, rfl, ?_⟩
  have L1 := L0.trans h3_2
  have hrl3_2 := rowN_length i (by omega)
  have hrp3_2 := rowN_pos i
  refine W.ef rfl rfl rfl ?_
  refine Ef.call go85 rfl rfl (laid_ok w3_2 (hV.le L1) (by omega) o3_2.vec (by omega) (by omega)) ?_
  rintro _ w3_3 ⟨Ag3_3, cg3_3, rfl, o3_3, h3_3⟩
  refine ⟨_, rfl, ?_⟩
  have L2 := L1.trans h3_3
  refine W.any (.assign rfl) rfl rfl rfl ?_
  refine W.nil ?_
  refine E.thenN ?_
  refine WC.ret ?_
  refine E.retG1 rfl rfl ?_
  exact ⟨_, _, rfl, (o3_3.mono L1.size), L2⟩
end Go.Proofs.YtgpdfkplkaojcaaGreat

