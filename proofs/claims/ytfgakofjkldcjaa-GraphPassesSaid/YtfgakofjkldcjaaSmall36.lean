/- The small case of layer 36's statements, walked: it comes out right. -/
import Derived.Test.YtfgakofjkldcjaaSort
import Derived.Test.YtfgakofjkldcjaaRef36
import Derived.Test.YtfgakofjkldcjaaPay
namespace Go.Proofs.Ytfgakofjkldcjaa
open Go Go.Sx Go.Hsp Go.Num Go.Osp Go.Gsp
set_option maxRecDepth 20000
set_option linter.unusedSimpArgs false
set_option linter.unusedVariables false
def sE1 : Gsp.Edge := ⟨1, 2, 5, 1000, ⟨7, 0, 70, 1, 900⟩⟩
def sE2 : Gsp.Edge := ⟨2, 4, 3, 1000, ⟨10, 0, 5, 1, 900⟩⟩
def sE3 : Gsp.Edge := ⟨2, 1, 5, 1000, ⟨0, 0, 0, 1, 900⟩⟩
theorem s_of : isort 0 ([sE1, sE2, sE3, noEdge].filter edgeOk).length ([sE1, sE2, sE3, noEdge].filter edgeOk) = [sE2, sE1, sE3] := by decide +kernel
theorem s_cost1 : costG [sE1, sE2] 100 50 = ([110, 100], [55, 50], 0) := by decide +kernel
theorem s_cost2 : costG [sE1, sE2] 891 50 = ([], [], 6) := by decide +kernel
theorem s_cost3 : costG [sE1, sE2] 100 1048572 = ([], [], 16) := by decide +kernel
theorem s_cost4 : costG [sE2, sE1] 100 50 = ([], [], 19) := by decide +kernel
theorem s_cost5 : costG [sE1, sE2] 0 50 = ([], [], 1) := by decide +kernel
theorem s_cost6 : (costG [sE1] 100 50).2.2 = 0 := by decide +kernel
theorem s_hops1 (p0 b0 : Nat) : hopsG [sE1, sE2] 100 50 [p0, 4] [b0] = ([(4, 3, 100, 50, 4, b0), (-1, 0, 100, 50, 4, 0)], 0) := by unfold hopsG; rw [s_cost1]; rfl
theorem s_hops2 (p0 b0 : Nat) : hopsG [sE1] 100 50 [p0, 4] [b0] = ([], 1) := by unfold hopsG; rw [if_neg (by rw [s_cost6]; simp), if_pos (by simp)]
theorem s_find1 : findE [sE2, sE1, sE3] 5 2 = (sE3, true) := by decide +kernel
theorem s_find2 : findE [sE2, sE1, sE3] 5 4 = (noEdge, false) := by decide +kernel
theorem s_right : rightG [sE2, sE1, sE3] = true := by decide +kernel
theorem s_way1 : wayG [sE1, sE2] = true := by decide +kernel
theorem s_way2 : wayG [sE1, sE3] = false := by decide +kernel
theorem s_way3 : wayG [] = false := by decide +kernel
theorem s_out : ([sE2, sE1, sE3].filter (fun e => decide (e.f = 2))) = [sE2, sE3] := by decide +kernel
theorem s_in : ([sE2, sE1, sE3].filter (fun e => decide (e.t = 2))) = [sE1] := by decide +kernel
theorem ledge_ok (f t c b d : Int) (w : World) : Calls Try.prog 72 #[.int .i64 (f), .int .i64 (t), .int .i64 (c), .int .i64 (b), .int .i64 (d)] w fun r w' => r = .returned (.agg (edgeV ⟨f, t, c, 1000, ⟨b, 0, d, 1, 900⟩⟩).toArray) ∧ Le w w' := by
  refine enter Try.func72 rfl rfl ?_
  have L0 := Le.refl w
  refine WC.seq ?_
  refine WC.region ?_
  refine W.ef rfl rfl rfl ?_
  refine Ef.allocA z76 ?_
  intro g0_0 w0_0 hg0_0 b0_0 h0_0
  have L1 := L0.trans h0_0
  have b0_0 : Blk w0_0 g0_0 76 (edgeV noEdge).toArray := b0_0
  refine W.nil ?_
  refine E.thenN ?_
  refine WC.seq ?_
  refine WC.region ?_
  refine W.any (.move rfl) rfl rfl rfl ?_
  refine W.any (.move rfl) rfl rfl rfl ?_
  refine W.any (.move rfl) rfl rfl rfl ?_
  refine W.any (.move rfl) rfl rfl rfl ?_
  refine W.any (.move rfl) rfl rfl rfl ?_
  refine W.any (.buildP (polV (⟨b, 0, d, 1, 900⟩)) pl74 z74 rfl rfl) rfl rfl rfl ?_
  refine W.any (.buildP (edgeV (⟨f, t, c, 1000, ⟨b, 0, d, 1, 900⟩⟩)) pl76 z76 rfl rfl) rfl rfl rfl ?_
  refine W.ef0 rfl rfl ?_
  refine Ef.storeAll sz76 (by rfl) rfl rfl b0_0 (by rfl) (edgeV_row.one (⟨f, t, c, 1000, ⟨b, 0, d, 1, 900⟩⟩)) ?_
  intro w1_7 b1_7 h1_7
  have b1_7 : Blk w1_7 g0_0 76 (edgeV (⟨f, t, c, 1000, ⟨b, 0, d, 1, 900⟩⟩)).toArray := b1_7
  have L2 : Le w w1_7 := L1.then_ h1_7 (fun q hq => by cases hq; exact Nat.le_trans L0.size hg0_0)
  refine W.nil ?_
  refine E.thenN ?_
  refine WC.ret ?_
  refine E.retG1 rfl (resA rfl b1_7 ag76 (by rfl)) ?_
  exact ⟨rfl, L2⟩

set_option maxHeartbeats 4000000 in
theorem small36_ok (w : World) : Calls Try.prog 32 #[] w fun r w' => r = .returned (.bool true) ∧ Le w w' := by
  refine enter Try.func32 rfl rfl ?_
  have L0 := Le.refl w
  refine WC.seq ?_
  refine WC.region ?_
  refine W.any (.assign rfl) rfl rfl rfl ?_
  refine W.nil ?_
  refine E.thenN ?_
  refine WC.seq ?_
  refine WC.region ?_
  refine W.ef rfl rfl rfl ?_
  refine Ef.call go72 rfl rfl (ledge_ok 1 2 5 7 70 w) ?_
  rintro _ w1_0 ⟨rfl, h1_0⟩
  refine ⟨_, rfl, ?_⟩
  have L1 := L0.trans h1_0
  refine W.ef rfl rfl rfl ?_
  refine Ef.call go72 rfl rfl (ledge_ok 2 4 3 10 5 w1_0) ?_
  rintro _ w1_1 ⟨rfl, h1_1⟩
  refine ⟨_, rfl, ?_⟩
  have L2 := L1.trans h1_1
  refine W.ef rfl rfl rfl ?_
  refine Ef.buildSliceV (len := 2) [_, _] Try.underlying59 el76 rfl (by simp [Value.cells, edgeV_row.len]) rfl (by decide) (by decide) ?_
  intro g1_2 w1_2 hg1_2 b1_2 h1_2
  have L3 := L2.trans h1_2
  have b1_2 : Blk w1_2 g1_2 76 (([sE1, sE2]).map edgeV).flatten.toArray := b1_2
  have o1_2 : OVec w1_2 w1_1.heap.size 76 edgeV 9 (some ⟨g1_2, 0, none⟩) 2 2 ([sE1, sE2]) := b1_2.ovec hg1_2 edgeV_row rfl rfl (by decide)
  refine W.any (.assign rfl) rfl rfl rfl ?_
  refine W.nil ?_
  refine E.thenN ?_
  refine WC.seq ?_
  refine WC.draw [0, 1, 2, 3, 4, 5, 7, 6, 8, 9, 10] mixed (by kernel_rfl) ?_
  intro w2 d2
  have L4 := L3.trans d2
  refine G.any rfl rfl (.move rfl) rfl rfl rfl ?_
  refine G.any rfl rfl (.idxS (0) Try.underlying59 sz76 rfl rfl (o1_2.vec.isSome edgeV_row (by omega)) (rfl) (by omega)) rfl rfl rfl ?_
  have f5 := (o1_2.le d2)
  refine G.rd rfl rfl (.vload ag76 rfl f5.vec edgeV_row (rfl)) rfl rfl rfl ?_
  refine G.any rfl rfl (.move rfl) rfl rfl rfl ?_
  refine G.any rfl rfl (.idxS (1) Try.underlying59 sz76 rfl rfl (o1_2.vec.isSome edgeV_row (by omega)) (rfl) (by omega)) rfl rfl rfl ?_
  refine G.rd rfl rfl (.vload ag76 rfl f5.vec edgeV_row (rfl)) rfl rfl rfl ?_
  refine G.any rfl rfl (.buildP (edgeV noEdge) pl76 z76 rfl rfl) rfl rfl rfl ?_
  refine G.ef rfl rfl rfl rfl rfl ?_
  refine Ef.call go72 rfl rfl (ledge_ok 2 1 5 0 0 w2) ?_
  rintro _ w2_6 ⟨rfl, h2_6⟩
  refine ⟨_, rfl, ?_⟩
  refine ⟨fun _ => h2_6, ?_⟩
  have L6 := L4.trans h2_6
  refine G.ef rfl rfl rfl rfl rfl ?_
  refine Ef.buildSliceV (len := 4) [_, _, _, _] Try.underlying59 el76 rfl (by simp [Value.cells, edgeV_row.len]) rfl (by decide) (by decide) ?_
  intro g2_8 w2_8 hg2_8 b2_8 h2_8
  refine ⟨fun _ => h2_8, ?_⟩
  have L7 := L6.trans h2_8
  have b2_8 : Blk w2_8 g2_8 76 (([sE1, sE2, sE3, noEdge]).map edgeV).flatten.toArray := b2_8
  have o2_8 : OVec w2_8 w2_6.heap.size 76 edgeV 9 (some ⟨g2_8, 0, none⟩) 4 4 ([sE1, sE2, sE3, noEdge]) := b2_8.ovec hg2_8 edgeV_row rfl rfl (by decide)
  refine G.ef rfl rfl rfl rfl rfl ?_
  refine Ef.call go41 rfl rfl ((by have k := of20_ok (c := 4) w2_8 o2_8.vec (by decide); rw [s_of] at k; (try simp only [List.length_cons, List.length_nil, Nat.zero_add, Nat.reduceAdd] at k); exact k)) ?_
  rintro _ w2_9 ⟨Ag2_9, cg2_9, rfl, og2_9, h2_9⟩
  refine ⟨_, rfl, ?_⟩
  refine ⟨fun _ => h2_9, ?_⟩
  have L8 := L7.trans h2_9
  have og2_9 := og2_9.cast (m' := 3) rfl rfl
  refine G.any rfl rfl (.assign rfl) rfl rfl rfl ?_
  refine G.nil ?_
  refine E.thenN ?_
  refine WC.seq ?_
  refine WC.region ?_
  refine W.any (.move rfl) rfl rfl rfl ?_
  have f9 := (f5.le (h2_6.trans (h2_8.trans h2_9)))
  refine W.ef rfl rfl rfl ?_
  refine Ef.call go33 rfl rfl ((by have k := cost_ok (c := 2) 100 50 w2_9 f9.vec (by decide); rw [s_cost1] at k; (try simp only [List.length_cons, List.length_nil, Nat.zero_add, Nat.reduceAdd] at k); exact k)) ?_
  rintro _ w3_1 ⟨Aa3_1, ca3_1, Ab3_1, cb3_1, rfl, oa3_1, ob3_1, h3_1⟩
  refine ⟨_, rfl, ?_⟩
  have L10 := L8.trans h3_1
  have oa3_1 := oa3_1.cast (m' := 2) rfl rfl
  have ob3_1 := ob3_1.cast (m' := 2) rfl rfl
  refine W.any (.move rfl) rfl rfl rfl ?_
  refine W.any (.extract (v := .slice Aa3_1 2 ca3_1) rfl rfl) rfl rfl rfl ?_
  refine W.any (.extract (v := .slice Ab3_1 2 cb3_1) rfl rfl) rfl rfl rfl ?_
  refine W.any (.extract (v := .int .i64 (0)) rfl rfl) rfl rfl rfl ?_
  refine W.any (.assign rfl) rfl rfl rfl ?_
  refine W.any (.assign rfl) rfl rfl rfl ?_
  refine W.any (.assign rfl) rfl rfl rfl ?_
  refine W.nil ?_
  refine E.thenN ?_
  refine WC.seq ?_
  refine WC.region ?_
  refine W.any (.move rfl) rfl rfl rfl ?_
  have f11 := (f9.le h3_1)
  refine W.ef rfl rfl rfl ?_
  refine Ef.call go33 rfl rfl ((by have k := cost_ok (c := 2) 891 50 w3_1 f11.vec (by decide); rw [s_cost2] at k; (try simp only [List.length_cons, List.length_nil, Nat.zero_add, Nat.reduceAdd] at k); exact k)) ?_
  rintro _ w4_1 ⟨Aa4_1, ca4_1, Ab4_1, cb4_1, rfl, oa4_1, ob4_1, h4_1⟩
  refine ⟨_, rfl, ?_⟩
  have L12 := L10.trans h4_1
  have oa4_1 := oa4_1.cast (m' := 0) rfl rfl
  have ob4_1 := ob4_1.cast (m' := 0) rfl rfl
  refine W.any (.move rfl) rfl rfl rfl ?_
  refine W.any (.extract (v := .slice Aa4_1 0 ca4_1) rfl rfl) rfl rfl rfl ?_
  refine W.any (.extract (v := .slice Ab4_1 0 cb4_1) rfl rfl) rfl rfl rfl ?_
  refine W.any (.extract (v := .int .i64 (6)) rfl rfl) rfl rfl rfl ?_
  refine W.any (.assign rfl) rfl rfl rfl ?_
  refine W.any (.assign rfl) rfl rfl rfl ?_
  refine W.any (.assign rfl) rfl rfl rfl ?_
  refine W.nil ?_
  refine E.thenN ?_
  refine WC.seq ?_
  refine WC.region ?_
  refine W.any (.move rfl) rfl rfl rfl ?_
  have f13 := (f11.le h4_1)
  refine W.ef rfl rfl rfl ?_
  refine Ef.call go33 rfl rfl ((by have k := cost_ok (c := 2) 100 1048572 w4_1 f13.vec (by decide); rw [s_cost3] at k; (try simp only [List.length_cons, List.length_nil, Nat.zero_add, Nat.reduceAdd] at k); exact k)) ?_
  rintro _ w5_1 ⟨Aa5_1, ca5_1, Ab5_1, cb5_1, rfl, oa5_1, ob5_1, h5_1⟩
  refine ⟨_, rfl, ?_⟩
  have L14 := L12.trans h5_1
  have oa5_1 := oa5_1.cast (m' := 0) rfl rfl
  have ob5_1 := ob5_1.cast (m' := 0) rfl rfl
  refine W.any (.move rfl) rfl rfl rfl ?_
  refine W.any (.extract (v := .slice Aa5_1 0 ca5_1) rfl rfl) rfl rfl rfl ?_
  refine W.any (.extract (v := .slice Ab5_1 0 cb5_1) rfl rfl) rfl rfl rfl ?_
  refine W.any (.extract (v := .int .i64 (16)) rfl rfl) rfl rfl rfl ?_
  refine W.any (.assign rfl) rfl rfl rfl ?_
  refine W.any (.assign rfl) rfl rfl rfl ?_
  refine W.any (.assign rfl) rfl rfl rfl ?_
  refine W.nil ?_
  refine E.thenN ?_
  refine WC.seq ?_
  refine WC.draw [0, 1, 2, 3, 4, 5, 6, 7, 8, 9, 10, 11, 12, 13, 14] mixed (by kernel_rfl) ?_
  intro w6 d6
  have L15 := L14.trans d6
  refine G.any rfl rfl (.move rfl) rfl rfl rfl ?_
  refine G.any rfl rfl (.idxS (1) Try.underlying59 sz76 rfl rfl (o1_2.vec.isSome edgeV_row (by omega)) (rfl) (by omega)) rfl rfl rfl ?_
  have f16 := (f13.le (h5_1.trans d6))
  refine G.rd rfl rfl (.vload ag76 rfl f16.vec edgeV_row (rfl)) rfl rfl rfl ?_
  refine G.any rfl rfl (.move rfl) rfl rfl rfl ?_
  refine G.any rfl rfl (.idxS (0) Try.underlying59 sz76 rfl rfl (o1_2.vec.isSome edgeV_row (by omega)) (rfl) (by omega)) rfl rfl rfl ?_
  refine G.rd rfl rfl (.vload ag76 rfl f16.vec edgeV_row (rfl)) rfl rfl rfl ?_
  refine G.ef rfl rfl rfl rfl rfl ?_
  refine Ef.buildSliceV (len := 2) [_, _] Try.underlying59 el76 rfl (by simp [Value.cells, edgeV_row.len]) rfl (by decide) (by decide) ?_
  intro g6_6 w6_6 hg6_6 b6_6 h6_6
  refine ⟨fun _ => h6_6, ?_⟩
  have L17 := L15.trans h6_6
  have b6_6 : Blk w6_6 g6_6 76 (([sE2, sE1]).map edgeV).flatten.toArray := b6_6
  have o6_6 : OVec w6_6 w6.heap.size 76 edgeV 9 (some ⟨g6_6, 0, none⟩) 2 2 ([sE2, sE1]) := b6_6.ovec hg6_6 edgeV_row rfl rfl (by decide)
  refine G.ef rfl rfl rfl rfl rfl ?_
  refine Ef.call go33 rfl rfl ((by have k := cost_ok (c := 2) 100 50 w6_6 o6_6.vec (by decide); rw [s_cost4] at k; (try simp only [List.length_cons, List.length_nil, Nat.zero_add, Nat.reduceAdd] at k); exact k)) ?_
  rintro _ w6_7 ⟨Aa6_7, ca6_7, Ab6_7, cb6_7, rfl, oa6_7, ob6_7, h6_7⟩
  refine ⟨_, rfl, ?_⟩
  refine ⟨fun _ => h6_7, ?_⟩
  have L18 := L17.trans h6_7
  have oa6_7 := oa6_7.cast (m' := 0) rfl rfl
  have ob6_7 := ob6_7.cast (m' := 0) rfl rfl
  refine G.any rfl rfl (.move rfl) rfl rfl rfl ?_
  refine G.any rfl rfl (.extract (v := .slice Aa6_7 0 ca6_7) rfl rfl) rfl rfl rfl ?_
  refine G.any rfl rfl (.extract (v := .slice Ab6_7 0 cb6_7) rfl rfl) rfl rfl rfl ?_
  refine G.any rfl rfl (.extract (v := .int .i64 (19)) rfl rfl) rfl rfl rfl ?_
  refine G.any rfl rfl (.assign rfl) rfl rfl rfl ?_
  refine G.any rfl rfl (.assign rfl) rfl rfl rfl ?_
  refine G.any rfl rfl (.assign rfl) rfl rfl rfl ?_
  refine G.nil ?_
  refine E.thenN ?_
  refine WC.seq ?_
  refine WC.region ?_
  refine W.any (.move rfl) rfl rfl rfl ?_
  have f19 := (f16.le (h6_6.trans h6_7))
  refine W.ef rfl rfl rfl ?_
  refine Ef.call go33 rfl rfl ((by have k := cost_ok (c := 2) 0 50 w6_7 f19.vec (by decide); rw [s_cost5] at k; (try simp only [List.length_cons, List.length_nil, Nat.zero_add, Nat.reduceAdd] at k); exact k)) ?_
  rintro _ w7_1 ⟨Aa7_1, ca7_1, Ab7_1, cb7_1, rfl, oa7_1, ob7_1, h7_1⟩
  refine ⟨_, rfl, ?_⟩
  have L20 := L18.trans h7_1
  have oa7_1 := oa7_1.cast (m' := 0) rfl rfl
  have ob7_1 := ob7_1.cast (m' := 0) rfl rfl
  refine W.any (.move rfl) rfl rfl rfl ?_
  refine W.any (.extract (v := .slice Aa7_1 0 ca7_1) rfl rfl) rfl rfl rfl ?_
  refine W.any (.extract (v := .slice Ab7_1 0 cb7_1) rfl rfl) rfl rfl rfl ?_
  refine W.any (.extract (v := .int .i64 (1)) rfl rfl) rfl rfl rfl ?_
  refine W.any (.assign rfl) rfl rfl rfl ?_
  refine W.any (.assign rfl) rfl rfl rfl ?_
  refine W.any (.assign rfl) rfl rfl rfl ?_
  refine W.nil ?_
  refine E.thenN ?_
  refine WC.seq ?_
  refine WC.region ?_
  refine W.ef rfl rfl rfl ?_
  refine Ef.call go73 rfl rfl (sum_ok (xs := []) w7_1 (Sl.nil _ _ _) (by decide) (by decide)) ?_
  rintro _ w8_0 ⟨rfl, h8_0⟩
  refine ⟨_, rfl, ?_⟩
  have L21 := L20.trans h8_0
  refine W.ef rfl rfl rfl ?_
  refine Ef.call go48 rfl rfl (pnew_ok 4 (by decide) right_four (by decide) (sum []) (sum_length _) 2 (by decide) (by decide) w8_0) ?_
  rintro _ w8_1 ⟨gp, Abl, cbl, rfl, hgp, bp, obl, h8_1⟩
  refine ⟨_, rfl, ?_⟩
  have L22 := L21.trans h8_1
  obtain ⟨b0, hb0⟩ : ∃ b0, blindsP (sum []) (2 - 1) = [b0] := ⟨_, rfl⟩
  rw [hb0] at bp obl
  obtain ⟨p0, hp0⟩ : ∃ p0, fromP 4 [b0] = [p0, 4] := ⟨_, rfl⟩
  rw [hp0] at bp
  have op : OVec w8_1 w8_0.heap.size 31 pv1 1 (some ⟨gp, 0, none⟩) 2 2 [p0, 4] := bp.ovec hgp pv1_row rfl rfl (by decide)
  have obl : OVec w8_1 w8_0.heap.size 30 pv1 1 Abl 1 cbl [b0] := ⟨rfl, obl⟩
  refine W.any (.move rfl) rfl rfl rfl ?_
  refine W.any (.extract (v := .agg #[.slice (some ⟨gp, 0, none⟩) 2 2, .slice Abl 1 cbl]) rfl rfl) rfl rfl rfl ?_
  refine W.any (.extract (v := .bool true) rfl rfl) rfl rfl rfl ?_
  refine W.ef rfl rfl rfl ?_
  refine Ef.allocA z63 ?_
  intro g8_5 w8_5 hg8_5 b8_5 h8_5
  have L23 := L22.trans h8_5
  have b8_5 : Blk w8_5 g8_5 63 #[.slice none 0 0, .slice none 0 0] := b8_5
  refine W.ef0 rfl rfl ?_
  refine Ef.storeAll sz63 (by rfl) rfl rfl b8_5 (by rfl) (one2s) ?_
  intro w8_6 b8_6 h8_6
  have b8_6 : Blk w8_6 g8_5 63 #[.slice (some ⟨gp, 0, none⟩) 2 2, .slice Abl 1 cbl] := b8_6
  have L24 : Le w w8_6 := L23.then_ h8_6 (fun q hq => by cases hq; exact Nat.le_trans L22.size hg8_5)
  refine W.any (.assign rfl) rfl rfl rfl ?_
  refine W.nil ?_
  refine E.thenN ?_
  refine WC.seq ?_
  refine WC.region ?_
  refine W.any (.move rfl) rfl rfl rfl ?_
  refine W.rd (.loadAll ag63 (by rfl) rfl b8_6) rfl rfl rfl ?_
  have f25 := ((f19.le (h7_1.trans (h8_0.trans (h8_1.trans h8_5)))).ch h8_6 (fun q hq => by cases hq; exact (fun he => by have := (f19.row he).2; have := h7_1.size; have := h8_0.size; have := h8_1.size; omega)))
  have f26 := ((op.le h8_5).ch h8_6 (fun q hq => by cases hq; exact (fun he => by have := (op.row he).2; omega)))
  have f27 := ((obl.le h8_5).ch h8_6 (fun q hq => by cases hq; exact (fun he => by have := (obl.row he).2; omega)))
  refine W.ef rfl rfl rfl ?_
  refine Ef.call go35 rfl rfl ((by have k := hops_ok (c := 2) (cp := 2) (cb := cbl) 100 50 w8_6 f25.vec (by decide) f26.vec (by decide) f27.vec (by decide) (by decide); rw [s_hops1] at k; (try simp only [List.length_cons, List.length_nil, Nat.zero_add, Nat.reduceAdd] at k); exact k)) ?_
  rintro _ w9_2 ⟨Ah9_2, ch9_2, rfl, oh9_2, h9_2⟩
  refine ⟨_, rfl, ?_⟩
  have L28 := L24.trans h9_2
  have oh9_2 := oh9_2.cast (m' := 2) rfl rfl
  refine W.any (.move rfl) rfl rfl rfl ?_
  refine W.any (.extract (v := .slice Ah9_2 2 ch9_2) rfl rfl) rfl rfl rfl ?_
  refine W.any (.extract (v := .int .i64 (0)) rfl rfl) rfl rfl rfl ?_
  refine W.any (.assign rfl) rfl rfl rfl ?_
  refine W.any (.assign rfl) rfl rfl rfl ?_
  refine W.nil ?_
  refine E.thenN ?_
  refine WC.seq ?_
  refine WC.draw [0, 1, 2, 3, 4, 5, 6, 7, 8] mixed (by kernel_rfl) ?_
  intro w10 d10
  have L29 := L28.trans d10
  refine G.any rfl rfl (.move rfl) rfl rfl rfl ?_
  have f30 := (f25.le (h9_2.trans d10))
  have cp31 := f30.cap
  have v32 := f30.vec.cutH 1 (by omega) edgeV_row
  have v32l := v32.1
  refine G.any rfl rfl (.cutH (1) Try.underlying59 sz76 rfl rfl (rfl) (by omega)) rfl rfl rfl ?_
  have f33 := (b8_6.le (h9_2.trans d10))
  refine G.rd rfl rfl (.loadAll ag63 (by rfl) rfl f33) rfl rfl rfl ?_
  have f34 := (f26.le (h9_2.trans d10))
  have f35 := (f27.le (h9_2.trans d10))
  refine G.ef rfl rfl rfl rfl rfl ?_
  refine Ef.call go35 rfl rfl ((by have k := hops_ok (c := 2) (cp := 2) (cb := cbl) 100 50 w10 v32 (by decide) f34.vec (by decide) f35.vec (by decide) (by decide); rw [show ([sE1, sE2].take 1) = [sE1] from rfl, s_hops2] at k; (try simp only [List.length_cons, List.length_nil, Nat.zero_add, Nat.reduceAdd] at k); exact k)) ?_
  rintro _ w10_3 ⟨Ah10_3, ch10_3, rfl, oh10_3, h10_3⟩
  refine ⟨_, rfl, ?_⟩
  refine ⟨fun _ => h10_3, ?_⟩
  have L36 := L29.trans h10_3
  have oh10_3 := oh10_3.cast (m' := 0) rfl rfl
  refine G.any rfl rfl (.move rfl) rfl rfl rfl ?_
  refine G.any rfl rfl (.extract (v := .slice Ah10_3 0 ch10_3) rfl rfl) rfl rfl rfl ?_
  refine G.any rfl rfl (.extract (v := .int .i64 (1)) rfl rfl) rfl rfl rfl ?_
  refine G.any rfl rfl (.assign rfl) rfl rfl rfl ?_
  refine G.any rfl rfl (.assign rfl) rfl rfl rfl ?_
  refine G.nil ?_
  refine E.thenN ?_
  refine WC.seq ?_
  refine WC.region ?_
  refine W.any (.move rfl) rfl rfl rfl ?_
  have f37 := (((og2_9.le (h3_1.trans (h4_1.trans (h5_1.trans (d6.trans (h6_6.trans (h6_7.trans (h7_1.trans (h8_0.trans (h8_1.trans h8_5)))))))))).ch h8_6 (fun q hq => by cases hq; exact (fun he => by have := (og2_9.row he).2; have := h3_1.size; have := h4_1.size; have := h5_1.size; have := d6.size; have := h6_6.size; have := h6_7.size; have := h7_1.size; have := h8_0.size; have := h8_1.size; omega))).le (h9_2.trans (d10.trans h10_3)))
  refine W.ef rfl rfl rfl ?_
  refine Ef.call go46 rfl rfl ((by have k := find_ok (c := cg2_9) 5 2 w10_3 f37.vec (by decide); rw [s_find1] at k; (try simp only [List.length_cons, List.length_nil, Nat.zero_add, Nat.reduceAdd] at k); exact k)) ?_
  rintro _ w11_1 ⟨rfl, h11_1⟩
  refine ⟨_, rfl, ?_⟩
  have L38 := L36.trans h11_1
  refine W.any (.move rfl) rfl rfl rfl ?_
  refine W.any (.extract (v := .agg (edgeV sE3).toArray) rfl rfl) rfl rfl rfl ?_
  refine W.any (.extract (v := .bool true) rfl rfl) rfl rfl rfl ?_
  refine W.ef rfl rfl rfl ?_
  refine Ef.allocA z76 ?_
  intro g11_5 w11_5 hg11_5 b11_5 h11_5
  have L39 := L38.trans h11_5
  have b11_5 : Blk w11_5 g11_5 76 (edgeV noEdge).toArray := b11_5
  refine W.ef0 rfl rfl ?_
  refine Ef.storeAll sz76 (by rfl) rfl rfl b11_5 (by rfl) (edgeV_row.one sE3) ?_
  intro w11_6 b11_6 h11_6
  have b11_6 : Blk w11_6 g11_5 76 (edgeV sE3).toArray := b11_6
  have L40 : Le w w11_6 := L39.then_ h11_6 (fun q hq => by cases hq; exact Nat.le_trans L38.size hg11_5)
  refine W.any (.assign rfl) rfl rfl rfl ?_
  refine W.nil ?_
  refine E.thenN ?_
  refine WC.seq ?_
  refine WC.region ?_
  refine W.any (.move rfl) rfl rfl rfl ?_
  have f41 := ((f37.le (h11_1.trans h11_5)).ch h11_6 (fun q hq => by cases hq; exact (fun he => by have := (f37.row he).2; have := h11_1.size; omega)))
  refine W.ef rfl rfl rfl ?_
  refine Ef.call go46 rfl rfl ((by have k := find_ok (c := cg2_9) 5 4 w11_6 f41.vec (by decide); rw [s_find2] at k; (try simp only [List.length_cons, List.length_nil, Nat.zero_add, Nat.reduceAdd] at k); exact k)) ?_
  rintro _ w12_1 ⟨rfl, h12_1⟩
  refine ⟨_, rfl, ?_⟩
  have L42 := L40.trans h12_1
  refine W.any (.move rfl) rfl rfl rfl ?_
  refine W.any (.extract (v := .agg (edgeV noEdge).toArray) rfl rfl) rfl rfl rfl ?_
  refine W.any (.extract (v := .bool false) rfl rfl) rfl rfl rfl ?_
  refine W.ef rfl rfl rfl ?_
  refine Ef.allocA z76 ?_
  intro g12_5 w12_5 hg12_5 b12_5 h12_5
  have L43 := L42.trans h12_5
  have b12_5 : Blk w12_5 g12_5 76 (edgeV noEdge).toArray := b12_5
  refine W.ef0 rfl rfl ?_
  refine Ef.storeAll sz76 (by rfl) rfl rfl b12_5 (by rfl) (edgeV_row.one noEdge) ?_
  intro w12_6 b12_6 h12_6
  have b12_6 : Blk w12_6 g12_5 76 (edgeV noEdge).toArray := b12_6
  have L44 : Le w w12_6 := L43.then_ h12_6 (fun q hq => by cases hq; exact Nat.le_trans L42.size hg12_5)
  refine W.any (.assign rfl) rfl rfl rfl ?_
  refine W.nil ?_
  refine E.thenN ?_
  refine WC.seq ?_
  refine WC.seq ?_
  refine WC.region ?_
  refine W.any (.move rfl) rfl rfl rfl ?_
  refine W.rd (.len Try.underlying59 rfl) rfl rfl rfl ?_
  refine W.any (.dec (.neq rfl rfl) (show _ = false from by decide)) rfl rfl rfl ?_
  refine W.any (.move rfl) rfl rfl rfl ?_
  refine W.rdg (Any.rd (.move rfl) _) rfl rfl rfl (rfl) rfl rfl ?_
  refine W.rdg (.len Try.underlying66 rfl) rfl rfl rfl (rfl) rfl rfl ?_
  refine W.rdg (Any.rd (.dec (.neq rfl rfl) (show _ = false from by decide)) _) rfl rfl rfl (rfl) rfl rfl ?_
  refine W.any (.pickF rfl rfl rfl) rfl rfl rfl ?_
  refine W.nil ?_
  refine E.thenN ?_
  refine WC.condF rfl ?_
  refine WC.skip ?_
  refine E.thenN ?_
  refine WC.seq ?_
  refine WC.region ?_
  refine W.any (.move rfl) rfl rfl rfl ?_
  refine W.ef rfl rfl rfl ?_
  refine Ef.buildSliceV (len := 2) [_, _] Try.underlying53 el3 rfl (by simp [Value.cells]) rfl (by decide) (by decide) ?_
  intro g15_1 w15_1 hg15_1 b15_1 h15_1
  have L45 := L44.trans h15_1
  have b15_1 : Blk w15_1 g15_1 3 (([110, 100]).map iv).flatten.toArray := b15_1
  have o15_1 : OVec w15_1 w12_6.heap.size 3 iv 1 (some ⟨g15_1, 0, none⟩) 2 2 ([110, 100]) := b15_1.ovec hg15_1 iv_row rfl rfl (by decide)
  have f46 := (((((((oa3_1.le (h4_1.trans (h5_1.trans (d6.trans (h6_6.trans (h6_7.trans (h7_1.trans (h8_0.trans (h8_1.trans h8_5))))))))).ch h8_6 (fun q hq => by cases hq; exact (fun he => by have := (oa3_1.row he).2; have := h4_1.size; have := h5_1.size; have := d6.size; have := h6_6.size; have := h6_7.size; have := h7_1.size; have := h8_0.size; have := h8_1.size; omega))).le (h9_2.trans (d10.trans (h10_3.trans (h11_1.trans h11_5))))).ch h11_6 (fun q hq => by cases hq; exact (fun he => by have := (oa3_1.row he).2; have := h4_1.size; have := h5_1.size; have := d6.size; have := h6_6.size; have := h6_7.size; have := h7_1.size; have := h8_0.size; have := h8_1.size; have := h8_5.size; have := h8_6.size; have := h9_2.size; have := d10.size; have := h10_3.size; have := h11_1.size; omega))).le (h12_1.trans h12_5)).ch h12_6 (fun q hq => by cases hq; exact (fun he => by have := (oa3_1.row he).2; have := h4_1.size; have := h5_1.size; have := d6.size; have := h6_6.size; have := h6_7.size; have := h7_1.size; have := h8_0.size; have := h8_1.size; have := h8_5.size; have := h8_6.size; have := h9_2.size; have := d10.size; have := h10_3.size; have := h11_1.size; have := h11_5.size; have := h11_6.size; have := h12_1.size; omega))).le h15_1)
  refine W.ef rfl rfl rfl ?_
  refine Ef.call go37 rfl rfl (ints_ok w15_1 f46.vec o15_1.vec (by omega)) ?_
  rintro _ w15_2 ⟨rfl, h15_2⟩
  refine ⟨_, rfl, ?_⟩
  have L47 := L45.trans h15_2
  refine W.any (.dec (.move rfl) (decide_eq_true rfl)) rfl rfl rfl ?_
  refine W.rdg (Any.rd (.move rfl) _) rfl rfl rfl (rfl) rfl rfl ?_
  refine W.efg rfl rfl rfl (rfl) rfl rfl ?_
  refine Ef.buildSliceV (len := 2) [_, _] Try.underlying53 el3 rfl (by simp [Value.cells]) rfl (by decide) (by decide) ?_
  intro g15_5 w15_5 hg15_5 b15_5 h15_5
  have L48 := L47.trans h15_5
  have b15_5 : Blk w15_5 g15_5 3 (([55, 50]).map iv).flatten.toArray := b15_5
  have o15_5 : OVec w15_5 w15_2.heap.size 3 iv 1 (some ⟨g15_5, 0, none⟩) 2 2 ([55, 50]) := b15_5.ovec hg15_5 iv_row rfl rfl (by decide)
  have f49 := (((((((ob3_1.le (h4_1.trans (h5_1.trans (d6.trans (h6_6.trans (h6_7.trans (h7_1.trans (h8_0.trans (h8_1.trans h8_5))))))))).ch h8_6 (fun q hq => by cases hq; exact (fun he => by have := (ob3_1.row he).2; have := h4_1.size; have := h5_1.size; have := d6.size; have := h6_6.size; have := h6_7.size; have := h7_1.size; have := h8_0.size; have := h8_1.size; omega))).le (h9_2.trans (d10.trans (h10_3.trans (h11_1.trans h11_5))))).ch h11_6 (fun q hq => by cases hq; exact (fun he => by have := (ob3_1.row he).2; have := h4_1.size; have := h5_1.size; have := d6.size; have := h6_6.size; have := h6_7.size; have := h7_1.size; have := h8_0.size; have := h8_1.size; have := h8_5.size; have := h8_6.size; have := h9_2.size; have := d10.size; have := h10_3.size; have := h11_1.size; omega))).le (h12_1.trans h12_5)).ch h12_6 (fun q hq => by cases hq; exact (fun he => by have := (ob3_1.row he).2; have := h4_1.size; have := h5_1.size; have := d6.size; have := h6_6.size; have := h6_7.size; have := h7_1.size; have := h8_0.size; have := h8_1.size; have := h8_5.size; have := h8_6.size; have := h9_2.size; have := d10.size; have := h10_3.size; have := h11_1.size; have := h11_5.size; have := h11_6.size; have := h12_1.size; omega))).le (h15_1.trans (h15_2.trans h15_5)))
  refine W.efg rfl rfl rfl (rfl) rfl rfl ?_
  refine Ef.call go37 rfl rfl (ints_ok w15_5 f49.vec o15_5.vec (by omega)) ?_
  rintro _ w15_6 ⟨rfl, h15_6⟩
  refine ⟨_, rfl, ?_⟩
  have L50 := L48.trans h15_6
  refine W.any (.pickT rfl rfl rfl) rfl rfl rfl ?_
  refine W.any (.dec (.move rfl) (decide_eq_true rfl)) rfl rfl rfl ?_
  refine W.rdg (Any.rd (.move rfl) _) rfl rfl rfl (rfl) rfl rfl ?_
  refine W.rdg (Any.rd (.dec (.eql rfl rfl) (show _ = true from by decide)) _) rfl rfl rfl (rfl) rfl rfl ?_
  refine W.any (.pickT rfl rfl rfl) rfl rfl rfl ?_
  refine W.any (.move rfl) rfl rfl rfl ?_
  refine W.rdg (Any.rd (.move rfl) _) rfl rfl rfl (rfl) rfl rfl ?_
  refine W.rdg (Any.rd (.dec (.eql rfl rfl) (show _ = true from by decide)) _) rfl rfl rfl (rfl) rfl rfl ?_
  refine W.any (.pickT rfl rfl rfl) rfl rfl rfl ?_
  refine W.any (.move rfl) rfl rfl rfl ?_
  refine W.rdg (Any.rd (.move rfl) _) rfl rfl rfl (rfl) rfl rfl ?_
  refine W.rdg (Any.rd (.dec (.eql rfl rfl) (show _ = true from by decide)) _) rfl rfl rfl (rfl) rfl rfl ?_
  refine W.any (.pickT rfl rfl rfl) rfl rfl rfl ?_
  refine W.any (.move rfl) rfl rfl rfl ?_
  refine W.rdg (Any.rd (.move rfl) _) rfl rfl rfl (rfl) rfl rfl ?_
  refine W.rdg (Any.rd (.dec (.eql rfl rfl) (show _ = true from by decide)) _) rfl rfl rfl (rfl) rfl rfl ?_
  refine W.any (.pickT rfl rfl rfl) rfl rfl rfl ?_
  refine W.any (.move rfl) rfl rfl rfl ?_
  refine W.rdg (Any.rd (.move rfl) _) rfl rfl rfl (rfl) rfl rfl ?_
  refine W.rdg (Any.rd (.dec (.eql rfl rfl) (show _ = true from by decide)) _) rfl rfl rfl (rfl) rfl rfl ?_
  refine W.any (.pickT rfl rfl rfl) rfl rfl rfl ?_
  refine W.any (.move rfl) rfl rfl rfl ?_
  refine W.rdg (Any.rd (.move rfl) _) rfl rfl rfl (rfl) rfl rfl ?_
  have f51 := (((f41.le (h12_1.trans h12_5)).ch h12_6 (fun q hq => by cases hq; exact (fun he => by have := (f41.row he).2; have := h12_1.size; omega))).le (h15_1.trans (h15_2.trans (h15_5.trans h15_6))))
  refine W.efg rfl rfl rfl (rfl) rfl rfl ?_
  refine Ef.call go45 rfl rfl ((by have k := gright_ok (c := cg2_9) w15_6 f51.vec (by decide); rw [s_right] at k; (try simp only [List.length_cons, List.length_nil, Nat.zero_add, Nat.reduceAdd] at k); exact k)) ?_
  rintro _ w15_30 ⟨rfl, h15_30⟩
  refine ⟨_, rfl, ?_⟩
  have L52 := L50.trans h15_30
  refine W.any (.pickT rfl rfl rfl) rfl rfl rfl ?_
  refine W.any (.move rfl) rfl rfl rfl ?_
  refine W.rdg (Any.rd (.move rfl) _) rfl rfl rfl (rfl) rfl rfl ?_
  refine W.rdg (Any.rd (.idxS (0) Try.underlying59 sz76 rfl rfl (og2_9.vec.isSome edgeV_row (by omega)) (rfl) (by omega)) _) rfl rfl rfl (rfl) rfl rfl ?_
  refine W.rdg (Any.rd (.vfield fa76_2 (og2_9.vec.isSome edgeV_row (by omega)) rfl) _) rfl rfl rfl (rfl) rfl rfl ?_
  have f53 := (f51.le h15_30)
  refine W.rdg (.vcell (j := 0) (o := 2) (v := .int .i64 ((([sE2, sE1, sE3]).getD 0 noEdge).c)) na3 rfl f53.vec edgeV_row (getS ([sE2, sE1, sE3]) noEdge (by first | omega | (simp only [List.length_cons, List.length_nil]; omega))) rfl) rfl rfl rfl (rfl) rfl rfl ?_
  refine W.rdg (Any.rd (.eql rfl rfl) _) rfl rfl rfl (rfl) rfl rfl ?_
  refine W.any (.pickT rfl rfl rfl) rfl rfl rfl ?_
  refine W.any (.dec (.move rfl) (decide_eq_true rfl)) rfl rfl rfl ?_
  refine W.rdg (Any.rd (.move rfl) _) rfl rfl rfl (rfl) rfl rfl ?_
  refine W.rdg (Any.rd (.idxS (1) Try.underlying59 sz76 rfl rfl (og2_9.vec.isSome edgeV_row (by omega)) (rfl) (by omega)) _) rfl rfl rfl (rfl) rfl rfl ?_
  refine W.rdg (Any.rd (.vfield fa76_0 (og2_9.vec.isSome edgeV_row (by omega)) rfl) _) rfl rfl rfl (rfl) rfl rfl ?_
  refine W.rdg (.vcell (j := 1) (o := 0) (v := .int .i64 ((([sE2, sE1, sE3]).getD 1 noEdge).f)) na3 rfl f53.vec edgeV_row (getS ([sE2, sE1, sE3]) noEdge (by first | omega | (simp only [List.length_cons, List.length_nil]; omega))) rfl) rfl rfl rfl (rfl) rfl rfl ?_
  refine W.rdg (Any.rd (.dec (.eql rfl rfl) (decide_eq_true rfl)) _) rfl rfl rfl (rfl) rfl rfl ?_
  refine W.any (.pickT rfl rfl rfl) rfl rfl rfl ?_
  refine W.any (.assign rfl) rfl rfl rfl ?_
  refine W.nil ?_
  refine E.thenN ?_
  refine WC.seq ?_
  refine WC.draw [0, 1, 2, 3, 4, 5, 6, 7, 8, 9, 10, 11, 12, 13, 14, 15, 16, 17, 18, 19, 20, 21, 22, 23, 24] mixed (by kernel_rfl) ?_
  intro w16 d16
  have L54 := L52.trans d16
  refine G.any rfl rfl (.move rfl) rfl rfl rfl ?_
  refine G.any rfl rfl (.dec (.eql rfl rfl) (show _ = true from by decide)) rfl rfl rfl ?_
  refine G.any rfl rfl (.move rfl) rfl rfl rfl ?_
  refine G.anyg rfl rfl (.move rfl) rfl rfl rfl (rfl) rfl rfl ?_
  refine G.anyg rfl rfl (.idxS (0) Try.underlying66 sz95 rfl rfl (oh9_2.vec.isSome hopV_row (by omega)) (rfl) (by omega)) rfl rfl rfl (rfl) rfl rfl ?_
  have f55 := (((((oh9_2.le (d10.trans (h10_3.trans (h11_1.trans h11_5)))).ch h11_6 (fun q hq => by cases hq; exact (fun he => by have := (oh9_2.row he).2; have := d10.size; have := h10_3.size; have := h11_1.size; omega))).le (h12_1.trans h12_5)).ch h12_6 (fun q hq => by cases hq; exact (fun he => by have := (oh9_2.row he).2; have := d10.size; have := h10_3.size; have := h11_1.size; have := h11_5.size; have := h11_6.size; have := h12_1.size; omega))).le (h15_1.trans (h15_2.trans (h15_5.trans (h15_6.trans (h15_30.trans d16))))))
  refine G.rdg rfl rfl (.vload ag95 rfl f55.vec hopV_row (getS ([(4, 3, 100, 50, 4, b0), (-1, 0, 100, 50, 4, 0)]) noHop (by first | omega | (simp only [List.length_cons, List.length_nil]; omega)))) rfl rfl rfl (rfl) rfl rfl ?_
  refine G.anyg rfl rfl (.field0 fa63_1 rfl) rfl rfl rfl (rfl) rfl rfl ?_
  have f56 := (((((f33.le (h10_3.trans (h11_1.trans h11_5))).ch h11_6 (fun h => (show g11_5 ≠ g8_5 from by have := f33.lt; have := h10_3.size; have := h11_1.size; omega) (Option.some.inj h))).le (h12_1.trans h12_5)).ch h12_6 (fun h => (show g12_5 ≠ g8_5 from by have := f33.lt; have := h10_3.size; have := h11_1.size; have := h11_5.size; have := h11_6.size; have := h12_1.size; omega) (Option.some.inj h))).le (h15_1.trans (h15_2.trans (h15_5.trans (h15_6.trans (h15_30.trans d16))))))
  refine G.rdg rfl rfl (.loadB (v := .slice Abl 1 cbl) na61 rfl f56 rfl) rfl rfl rfl (rfl) rfl rfl ?_
  refine G.anyg rfl rfl (.idxS (0) Try.underlying61 sz30 rfl rfl (obl.vec.isSome pv1_row (by omega)) (rfl) (by omega)) rfl rfl rfl (rfl) rfl rfl ?_
  have f57 := (((((f35.le (h10_3.trans (h11_1.trans h11_5))).ch h11_6 (fun q hq => by cases hq; exact (fun he => by have := (f35.row he).2; have := h10_3.size; have := h11_1.size; omega))).le (h12_1.trans h12_5)).ch h12_6 (fun q hq => by cases hq; exact (fun he => by have := (f35.row he).2; have := h10_3.size; have := h11_1.size; have := h11_5.size; have := h11_6.size; have := h12_1.size; omega))).le (h15_1.trans (h15_2.trans (h15_5.trans (h15_6.trans (h15_30.trans d16))))))
  refine G.rdg rfl rfl (.vone (v := .int .u64 ((((([b0]).getD 0 0) : Nat) : Int))) na30 rfl f57.vec pv1_row (getS ([b0]) 0 (by first | omega | (simp only [List.length_cons, List.length_nil]; omega))) rfl) rfl rfl rfl (rfl) rfl rfl ?_
  refine G.anyg rfl rfl (.buildP (hopV (4, 3, 100, 50, 4, (([b0]).getD 0 0))) pl95 z95 rfl rfl) rfl rfl rfl (rfl) rfl rfl ?_
  refine G.anyg rfl rfl (.eqA eg95 rfl rfl (eqv_hop (d := 9998) _ _)) rfl rfl rfl (rfl) rfl rfl ?_
  refine G.any rfl rfl (.pickT rfl rfl rfl) rfl rfl rfl ?_
  refine G.any rfl rfl (.dec (.move rfl) (decide_eq_true rfl)) rfl rfl rfl ?_
  refine G.anyg rfl rfl (.move rfl) rfl rfl rfl (rfl) rfl rfl ?_
  refine G.anyg rfl rfl (.idxS (1) Try.underlying66 sz95 rfl rfl (oh9_2.vec.isSome hopV_row (by omega)) (rfl) (by omega)) rfl rfl rfl (rfl) rfl rfl ?_
  refine G.rdg rfl rfl (.vload ag95 rfl f55.vec hopV_row (getS ([(4, 3, 100, 50, 4, b0), (-1, 0, 100, 50, 4, 0)]) noHop (by first | omega | (simp only [List.length_cons, List.length_nil]; omega)))) rfl rfl rfl (rfl) rfl rfl ?_
  refine G.anyg rfl rfl (.buildP (hopV ((-1), 0, 100, 50, 4, 0)) pl95 z95 rfl rfl) rfl rfl rfl (rfl) rfl rfl ?_
  refine G.anyg rfl rfl (.dec (.eqA eg95 rfl rfl (eqv_hop (d := 9998) _ _)) (decide_eq_true rfl)) rfl rfl rfl (rfl) rfl rfl ?_
  refine G.any rfl rfl (.pickT rfl rfl rfl) rfl rfl rfl ?_
  refine G.any rfl rfl (.move rfl) rfl rfl rfl ?_
  refine G.anyg rfl rfl (.move rfl) rfl rfl rfl (rfl) rfl rfl ?_
  refine G.anyg rfl rfl (.dec (.eql rfl rfl) (show _ = true from by decide)) rfl rfl rfl (rfl) rfl rfl ?_
  refine G.any rfl rfl (.pickT rfl rfl rfl) rfl rfl rfl ?_
  refine G.any rfl rfl (.assign rfl) rfl rfl rfl ?_
  refine G.nil ?_
  refine E.thenN ?_
  refine WC.seq ?_
  refine WC.draw [0, 1, 2, 3, 4, 5, 6, 7, 8, 9, 10, 11, 12, 13, 14, 15, 16, 17, 18, 19, 20, 21, 22, 23, 24, 25, 26, 27, 28, 29, 30, 31, 32, 33, 34, 35, 36, 37, 38, 39, 40, 41, 42, 43, 44, 45] mixed (by kernel_rfl) ?_
  intro w17 d17
  have L58 := L54.trans d17
  refine G.any rfl rfl (.move rfl) rfl rfl rfl ?_
  refine G.any rfl rfl (.move rfl) rfl rfl rfl ?_
  refine G.anyg rfl rfl (.move rfl) rfl rfl rfl (rfl) rfl rfl ?_
  refine G.any rfl rfl (.pickT rfl rfl rfl) rfl rfl rfl ?_
  refine G.any rfl rfl (.move rfl) rfl rfl rfl ?_
  refine G.anyg rfl rfl (.move rfl) rfl rfl rfl (rfl) rfl rfl ?_
  refine G.any rfl rfl (.pickT rfl rfl rfl) rfl rfl rfl ?_
  refine G.any rfl rfl (.move rfl) rfl rfl rfl ?_
  refine G.anyg rfl rfl (.field0 fa76_1 rfl) rfl rfl rfl (rfl) rfl rfl ?_
  have f59 := (((b11_6.le (h12_1.trans h12_5)).ch h12_6 (fun h => (show g12_5 ≠ g11_5 from by have := b11_6.lt; have := h12_1.size; omega) (Option.some.inj h))).le (h15_1.trans (h15_2.trans (h15_5.trans (h15_6.trans (h15_30.trans (d16.trans d17)))))))
  refine G.rdg rfl rfl (.loadB (v := .int .i64 (sE3.t)) na3 rfl f59 rfl) rfl rfl rfl (rfl) rfl rfl ?_
  refine G.anyg rfl rfl (.dec (.eql rfl rfl) (decide_eq_true rfl)) rfl rfl rfl (rfl) rfl rfl ?_
  refine G.any rfl rfl (.pickT rfl rfl rfl) rfl rfl rfl ?_
  refine G.any rfl rfl (.move rfl) rfl rfl rfl ?_
  refine G.anyg rfl rfl (.move rfl) rfl rfl rfl (rfl) rfl rfl ?_
  refine G.anyg rfl rfl (.not rfl) rfl rfl rfl (rfl) rfl rfl ?_
  refine G.any rfl rfl (.pickT rfl rfl rfl) rfl rfl rfl ?_
  refine G.any rfl rfl (.move rfl) rfl rfl rfl ?_
  refine G.anyg rfl rfl (.move rfl) rfl rfl rfl (rfl) rfl rfl ?_
  have f60 := (f53.le (d16.trans d17))
  refine G.efg rfl rfl rfl rfl rfl (rfl) rfl rfl ?_
  refine Ef.call go42 rfl rfl ((by have k := out_ok (c := cg2_9) 2 w17 f60.vec (by decide); rw [s_out] at k; (try simp only [List.length_cons, List.length_nil, Nat.zero_add, Nat.reduceAdd] at k); exact k)) ?_
  rintro _ w17_18 ⟨Ao17_18, co17_18, rfl, oo17_18, h17_18⟩
  refine ⟨_, rfl, ?_⟩
  refine ⟨fun _ => h17_18, ?_⟩
  have L61 := L58.trans h17_18
  refine G.rdg rfl rfl (.len Try.underlying59 rfl) rfl rfl rfl (rfl) rfl rfl ?_
  refine G.anyg rfl rfl (.dec (.eql rfl rfl) (show _ = true from by decide)) rfl rfl rfl (rfl) rfl rfl ?_
  refine G.any rfl rfl (.pickT rfl rfl rfl) rfl rfl rfl ?_
  refine G.any rfl rfl (.move rfl) rfl rfl rfl ?_
  refine G.anyg rfl rfl (.move rfl) rfl rfl rfl (rfl) rfl rfl ?_
  have f62 := (f60.le h17_18)
  refine G.efg rfl rfl rfl rfl rfl (rfl) rfl rfl ?_
  refine Ef.call go43 rfl rfl ((by have k := in_ok (c := cg2_9) 2 w17_18 f62.vec (by decide); rw [s_in] at k; (try simp only [List.length_cons, List.length_nil, Nat.zero_add, Nat.reduceAdd] at k); exact k)) ?_
  rintro _ w17_24 ⟨Ao17_24, co17_24, rfl, oo17_24, h17_24⟩
  refine ⟨_, rfl, ?_⟩
  refine ⟨fun _ => h17_24, ?_⟩
  have L63 := L61.trans h17_24
  refine G.rdg rfl rfl (.len Try.underlying59 rfl) rfl rfl rfl (rfl) rfl rfl ?_
  refine G.anyg rfl rfl (.dec (.eql rfl rfl) (show _ = true from by decide)) rfl rfl rfl (rfl) rfl rfl ?_
  refine G.any rfl rfl (.pickT rfl rfl rfl) rfl rfl rfl ?_
  refine G.any rfl rfl (.move rfl) rfl rfl rfl ?_
  refine G.anyg rfl rfl (.move rfl) rfl rfl rfl (rfl) rfl rfl ?_
  have f64 := (((((f30.le (h10_3.trans (h11_1.trans h11_5))).ch h11_6 (fun q hq => by cases hq; exact (fun he => by have := (f30.row he).2; have := h10_3.size; have := h11_1.size; omega))).le (h12_1.trans h12_5)).ch h12_6 (fun q hq => by cases hq; exact (fun he => by have := (f30.row he).2; have := h10_3.size; have := h11_1.size; have := h11_5.size; have := h11_6.size; have := h12_1.size; omega))).le (h15_1.trans (h15_2.trans (h15_5.trans (h15_6.trans (h15_30.trans (d16.trans (d17.trans (h17_18.trans h17_24)))))))))
  refine G.efg rfl rfl rfl rfl rfl (rfl) rfl rfl ?_
  refine Ef.call go40 rfl rfl ((by have k := gway_ok (c := 2) w17_24 f64.vec (by decide); rw [s_way1] at k; (try simp only [List.length_cons, List.length_nil, Nat.zero_add, Nat.reduceAdd] at k); exact k)) ?_
  rintro _ w17_30 ⟨rfl, h17_30⟩
  refine ⟨_, rfl, ?_⟩
  refine ⟨fun _ => h17_30, ?_⟩
  have L65 := L63.trans h17_30
  refine G.any rfl rfl (.pickT rfl rfl rfl) rfl rfl rfl ?_
  refine G.any rfl rfl (.move rfl) rfl rfl rfl ?_
  refine G.anyg rfl rfl (.move rfl) rfl rfl rfl (rfl) rfl rfl ?_
  refine G.anyg rfl rfl (.idxS (0) Try.underlying59 sz76 rfl rfl (o1_2.vec.isSome edgeV_row (by omega)) (rfl) (by omega)) rfl rfl rfl (rfl) rfl rfl ?_
  have f66 := (f64.le h17_30)
  refine G.rdg rfl rfl (.vload ag76 rfl f66.vec edgeV_row (rfl)) rfl rfl rfl (rfl) rfl rfl ?_
  refine G.efg rfl rfl rfl rfl rfl (rfl) rfl rfl ?_
  refine Ef.call go72 rfl rfl (ledge_ok 2 1 5 0 0 w17_30) ?_
  rintro _ w17_36 ⟨rfl, h17_36⟩
  refine ⟨_, rfl, ?_⟩
  refine ⟨fun _ => h17_36, ?_⟩
  have L67 := L65.trans h17_36
  refine G.efg rfl rfl rfl rfl rfl (rfl) rfl rfl ?_
  refine Ef.buildSliceV (len := 2) [_, _] Try.underlying59 el76 rfl (by simp [Value.cells, edgeV_row.len]) rfl (by decide) (by decide) ?_
  intro g17_37 w17_37 hg17_37 b17_37 h17_37
  refine ⟨fun _ => h17_37, ?_⟩
  have L68 := L67.trans h17_37
  have b17_37 : Blk w17_37 g17_37 76 (([sE1, sE3]).map edgeV).flatten.toArray := b17_37
  have o17_37 : OVec w17_37 w17_36.heap.size 76 edgeV 9 (some ⟨g17_37, 0, none⟩) 2 2 ([sE1, sE3]) := b17_37.ovec hg17_37 edgeV_row rfl rfl (by decide)
  refine G.efg rfl rfl rfl rfl rfl (rfl) rfl rfl ?_
  refine Ef.call go40 rfl rfl ((by have k := gway_ok (c := 2) w17_37 o17_37.vec (by decide); rw [s_way2] at k; (try simp only [List.length_cons, List.length_nil, Nat.zero_add, Nat.reduceAdd] at k); exact k)) ?_
  rintro _ w17_38 ⟨rfl, h17_38⟩
  refine ⟨_, rfl, ?_⟩
  refine ⟨fun _ => h17_38, ?_⟩
  have L69 := L68.trans h17_38
  refine G.anyg rfl rfl (.not rfl) rfl rfl rfl (rfl) rfl rfl ?_
  refine G.any rfl rfl (.pickT rfl rfl rfl) rfl rfl rfl ?_
  refine G.any rfl rfl (.move rfl) rfl rfl rfl ?_
  refine G.efg rfl rfl rfl rfl rfl (rfl) rfl rfl ?_
  refine Ef.call go40 rfl rfl ((by have k := gway_ok (c := 0) w17_38 (Vec.nil _ _ _ none) (by decide); rw [s_way3] at k; (try simp only [List.length_cons, List.length_nil, Nat.zero_add, Nat.reduceAdd] at k); exact k)) ?_
  rintro _ w17_42 ⟨rfl, h17_42⟩
  refine ⟨_, rfl, ?_⟩
  refine ⟨fun _ => h17_42, ?_⟩
  have L70 := L69.trans h17_42
  refine G.anyg rfl rfl (.not rfl) rfl rfl rfl (rfl) rfl rfl ?_
  refine G.any rfl rfl (.pickT rfl rfl rfl) rfl rfl rfl ?_
  refine G.any rfl rfl (.assign rfl) rfl rfl rfl ?_
  refine G.nil ?_
  refine E.thenN ?_
  refine WC.ret ?_
  refine E.retG1 rfl rfl ?_
  exact ⟨rfl, L70⟩
end Go.Proofs.Ytfgakofjkldcjaa
