/- The graph (layer 36): Hops, walked. -/
import Derived.Test.YtfgakofjkldcjaaCost
namespace Go.Proofs.Ytfgakofjkldcjaa
open Go Go.Sx Go.Hsp Go.Num Go.Osp Go.Gsp
set_option maxRecDepth 20000
set_option linter.unusedSimpArgs false
set_option linter.unusedVariables false
theorem hops_next (w : List Gsp.Edge) (s t : List Int) (p b : List Nat) (k : Nat) : (List.range k).map (hopAt w s t p b) ++ [(((w.drop 1).getD k noEdge).t, ((w.drop 1).getD k noEdge).c, s.getD (k + 1) 0, t.getD (k + 1) 0, p.getD (k + 1) 0, b.getD k 0)] = (List.range (k + 1)).map (hopAt w s t p b) := by
  rw [List.range_succ, List.map_append]
  simp only [List.getD, List.getElem?_drop, Nat.add_comm 1 k, List.map_cons, List.map_nil, hopAt]
set_option maxHeartbeats 4000000 in
theorem hops_ok (a x : Int) {A Ap Ab : Option Addr} {n c np cp nb cb : Nat} {xs : List Gsp.Edge} {pts bl : List Nat} (w : World) (hV : Vec w edgeV 9 A n xs) (hn : n ≤ 1000000) (hP : Vec w pv1 1 Ap np pts) (hnp : np ≤ 1000000) (hB : Vec w pv1 1 Ab nb bl) (hnb : nb ≤ 1000000) (hnc : n ≤ c) : Calls Try.prog 35 #[.slice A n c, .int .i64 (a), .int .i64 (x), .agg #[.slice Ap np cp, .slice Ab nb cb]] w fun r w' => ∃ A' c', r = .returned (.tuple #[.slice A' (hopsG xs a x pts bl).1.length c', .int .i64 (hopsG xs a x pts bl).2]) ∧ OVec w' w.heap.size 95 hopV 6 A' (hopsG xs a x pts bl).1.length c' (hopsG xs a x pts bl).1 ∧ Le w w' := by
  have hl := hV.1
  have hlp := hP.1
  have hlb := hB.1
  refine enter Try.func35 rfl rfl ?_
  have L0 := Le.refl w
  refine WC.seq ?_
  refine WC.region ?_
  refine W.ef rfl rfl rfl ?_
  refine Ef.boxA rfl ?_
  intro g0_0 w0_0 hg0_0 b0_0 h0_0
  have L1 := L0.trans h0_0
  have b0_0 : Blk w0_0 g0_0 63 #[.slice Ap np cp, .slice Ab nb cb] := b0_0
  refine W.any (.assign rfl) rfl rfl rfl ?_
  refine W.any (.assign rfl) rfl rfl rfl ?_
  refine W.nil ?_
  refine E.thenN ?_
  refine WC.seq ?_
  refine WC.region ?_
  refine W.any (.move rfl) rfl rfl rfl ?_
  refine W.any (.move rfl) rfl rfl rfl ?_
  refine W.any (.move rfl) rfl rfl rfl ?_
  refine W.ef rfl rfl rfl ?_
  refine Ef.call go33 rfl rfl (cost_ok a x w0_0 (hV.le L1) (by omega)) ?_
  rintro _ w1_3 ⟨Aa1_3, ca1_3, Ab1_3, cb1_3, rfl, oa1_3, ob1_3, h1_3⟩
  refine ⟨_, rfl, ?_⟩
  have L2 := L1.trans h1_3
  have hcl0 := @costG_lens xs a x
  have hwl0 : (costG xs a x).2.2 = 0 → wayG xs = true := fun h => (costG_inv h).1
  have hg0 : hopsG xs a x pts bl = if (costG xs a x).2.2 ≠ 0 then ([], (costG xs a x).2.2) else if pts.length ≠ xs.length ∨ bl.length ≠ xs.length - 1 then ([], 1) else (hopsL xs (costG xs a x).1 (costG xs a x).2.1 pts bl a x, 0) := rfl
  generalize costG xs a x = C at *
  refine W.any (.move rfl) rfl rfl rfl ?_
  refine W.any (.extract (v := .slice Aa1_3 C.1.length ca1_3) rfl rfl) rfl rfl rfl ?_
  refine W.any (.extract (v := .slice Ab1_3 C.2.1.length cb1_3) rfl rfl) rfl rfl rfl ?_
  refine W.any (.extract (v := .int .i64 (C.2.2)) rfl rfl) rfl rfl rfl ?_
  refine W.any (.assign rfl) rfl rfl rfl ?_
  refine W.any (.assign rfl) rfl rfl rfl ?_
  refine W.any (.assign rfl) rfl rfl rfl ?_
  refine W.nil ?_
  refine E.thenN ?_
  refine WC.seq ?_
  refine WC.region ?_
  refine W.any (.move rfl) rfl rfl rfl ?_
  refine W.rd (.len Try.underlying59 rfl) rfl rfl rfl ?_
  refine W.any (.sub rfl rfl (by omega)) rfl rfl rfl ?_
  refine W.any (.assign rfl) rfl rfl rfl ?_
  refine W.nil ?_
  refine E.thenN ?_
  refine WC.seq ?_
  refine WC.block ?_
  refine WC.seq ?_
  refine WC.region ?_
  refine W.any (.move rfl) rfl rfl rfl ?_
  refine W.any (.neq rfl rfl) rfl rfl rfl ?_
  refine W.any (.assign rfl) rfl rfl rfl ?_
  refine W.nil ?_
  refine E.thenN ?_
  by_cases c0 : C.2.2 ≠ 0
  · refine WC.condY rfl (decide_eq_true c0) ?_
    refine WC.seq ?_
    refine WC.region ?_
    refine W.any (.move rfl) rfl rfl rfl ?_
    refine W.any (.assign rfl) rfl rfl rfl ?_
    refine W.any (.assign rfl) rfl rfl rfl ?_
    refine W.nil ?_
    refine E.thenN ?_
    refine WC.ret ?_
    refine E.blkR ?_
    refine E.thenR ?_
    refine E.retG2 rfl rfl rfl ?_
    have hg : hopsG xs a x pts bl = ([], C.2.2) := by rw [hg0, if_pos (by omega)]
    exact ⟨none, 0, by rw [hg]; rfl, by rw [hg]; exact OVec.nil _ _ _ _ _ _, L2⟩
  · refine WC.condN rfl (decide_eq_false c0) ?_
    have hcl := hcl0 (Decidable.not_not.1 (by assumption))
    have hwl := wayG_len (hwl0 (Decidable.not_not.1 (by assumption)))
    refine WC.seq ?_
    refine WC.region ?_
    refine W.any (.field0 fa63_0 rfl) rfl rfl rfl ?_
    have f3 := (b0_0.le h1_3)
    refine W.rd (.loadB (v := .slice Ap np cp) na60 rfl f3 rfl) rfl rfl rfl ?_
    refine W.rd (.len Try.underlying60 rfl) rfl rfl rfl ?_
    refine W.any (.move rfl) rfl rfl rfl ?_
    refine W.any (.add rfl rfl (by omega)) rfl rfl rfl ?_
    refine W.any (.neq rfl rfl) rfl rfl rfl ?_
    by_cases q5_6 : ((np : Nat) : Int) ≠ ((((n : Nat) : Int) - 1) + 1)
    · refine W.any (.dec (.move rfl) (decide_eq_true q5_6)) rfl rfl rfl ?_
      refine W.skip rfl rfl rfl (rfl) rfl rfl ?_
      refine W.skip rfl rfl rfl (rfl) rfl rfl ?_
      refine W.skip rfl rfl rfl (rfl) rfl rfl ?_
      refine W.skip rfl rfl rfl (rfl) rfl rfl ?_
      refine W.skip rfl rfl rfl (rfl) rfl rfl ?_
      refine W.any (.pickT rfl rfl rfl) rfl rfl rfl ?_
      refine W.any (.assign rfl) rfl rfl rfl ?_
      refine W.nil ?_
      refine E.thenN ?_
      refine WC.condT rfl ?_
      refine WC.seq ?_
      refine WC.region ?_
      refine W.any (.assign rfl) rfl rfl rfl ?_
      refine W.any (.assign rfl) rfl rfl rfl ?_
      refine W.nil ?_
      refine E.thenN ?_
      refine WC.ret ?_
      refine E.blkR ?_
      refine E.thenR ?_
      refine E.retG2 rfl rfl rfl ?_
      have hg : hopsG xs a x pts bl = ([], 1) := by rw [hg0, if_neg (by omega), if_pos (by omega)]
      exact ⟨none, 0, by rw [hg]; rfl, by rw [hg]; exact OVec.nil _ _ _ _ _ _, L2⟩
    · refine W.any (.dec (.move rfl) (decide_eq_false q5_6)) rfl rfl rfl ?_
      refine W.rdg (Any.rd (.field0 fa63_1 rfl) _) rfl rfl rfl (rfl) rfl rfl ?_
      refine W.rdg (.loadB (v := .slice Ab nb cb) na61 rfl f3 rfl) rfl rfl rfl (rfl) rfl rfl ?_
      refine W.rdg (.len Try.underlying61 rfl) rfl rfl rfl (rfl) rfl rfl ?_
      refine W.rdg (Any.rd (.move rfl) _) rfl rfl rfl (rfl) rfl rfl ?_
      refine W.rdg (Any.rd (.neq rfl rfl) _) rfl rfl rfl (rfl) rfl rfl ?_
      refine W.any (.pickF rfl rfl rfl) rfl rfl rfl ?_
      refine W.any (.assign rfl) rfl rfl rfl ?_
      refine W.nil ?_
      refine E.thenN ?_
      by_cases c1 : ((nb : Nat) : Int) ≠ (((n : Nat) : Int) - 1)
      · refine WC.condY rfl (decide_eq_true c1) ?_
        refine WC.seq ?_
        refine WC.region ?_
        refine W.any (.assign rfl) rfl rfl rfl ?_
        refine W.any (.assign rfl) rfl rfl rfl ?_
        refine W.nil ?_
        refine E.thenN ?_
        refine WC.ret ?_
        refine E.blkR ?_
        refine E.thenR ?_
        refine E.retG2 rfl rfl rfl ?_
        have hg : hopsG xs a x pts bl = ([], 1) := by rw [hg0, if_neg (by omega), if_pos (by omega)]
        exact ⟨none, 0, by rw [hg]; rfl, by rw [hg]; exact OVec.nil _ _ _ _ _ _, L2⟩
      · refine WC.condN rfl (decide_eq_false c1) ?_
        refine WC.skip ?_
        refine E.blkN ?_
        refine E.thenN ?_
        refine WC.seq ?_
        refine WC.region ?_
        refine W.any (.move rfl) rfl rfl rfl ?_
        refine W.any (.add rfl rfl (by omega)) rfl rfl rfl ?_
        refine W.ef rfl rfl rfl ?_
        refine Ef.vmake0 ((n - 1) + 1) hopV Try.underlying66 el95 rfl rfl rfl (by omega) (by omega) (by unfold maxLen; omega) ?_
        intro g7_2 w7_2 hg7_2 o7_2 h7_2
        have L4 := L2.trans h7_2
        refine W.any (.assign rfl) rfl rfl rfl ?_
        refine W.nil ?_
        refine E.thenN ?_
        refine WC.seq ?_
        refine WC.seq ?_
        refine WC.region ?_
        refine W.any (.move rfl) rfl rfl rfl ?_
        have v5 := hV.cutL c 1 (by omega) (by omega) edgeV_row
        have v5l := v5.1
        refine W.any (.cutL (1) Try.underlying59 sz76 rfl rfl (rfl) (by omega) (by omega)) rfl rfl rfl ?_
        refine W.rd (.len Try.underlying59 rfl) rfl rfl rfl ?_
        refine W.any (.move rfl) rfl rfl rfl ?_
        refine W.nil ?_
        refine E.thenN ?_
        refine WC.block ?_
        have f6 := (f3.le h7_2)
        have f7 := (oa1_3.le h7_2)
        have f8 := (ob1_3.le h7_2)
        refine WC.loop (ι := Nat × (Option Addr) × Nat) (fun ⟨k, Aa, ca⟩ => [(1, .int .i64 (a)), (2, .int .i64 (x)), (7, .pointer (some ⟨g0_0, 0, none⟩)), (10, .slice Aa1_3 C.1.length ca1_3), (11, .slice Ab1_3 C.2.1.length cb1_3), (13, .int .i64 ((((n : Nat) : Int) - 1))), (14, .slice Aa k ca), (50, .slice (cutA A c 1 9) (n - 1) (c - 1)), (51, .int .i64 ((((n - 1) : Nat) : Int))), (52, .int .i64 (((k : Nat) : Int)))]) (fun ⟨k, Aa, ca⟩ wl0 => (k ≤ n - 1) ∧ Le w wl0 ∧ w7_2.heap.size ≤ wl0.heap.size ∧ Blk wl0 g0_0 63 #[.slice Ap np cp, .slice Ab nb cb] ∧ OVec wl0 w0_0.heap.size 3 iv 1 Aa1_3 C.1.length ca1_3 C.1 ∧ OVec wl0 w0_0.heap.size 3 iv 1 Ab1_3 C.2.1.length cb1_3 C.2.1 ∧ OVec wl0 w1_3.heap.size 95 hopV 6 Aa k ca ((List.range k).map (hopAt xs C.1 C.2.1 pts bl))) (fun ⟨k, Aa, ca⟩ => n - 1 - k) (0, (some ⟨g7_2, 0, none⟩), ((n - 1) + 1)) ?_ ?_ ?_
        · exact .cons rfl (.cons rfl (.cons rfl (.cons rfl (.cons rfl (.cons rfl (.cons rfl (.cons rfl (.cons rfl (.cons rfl (.nil _))))))))))
        · exact ⟨by omega, L4, Nat.le_refl _, f6, f7, f8, o7_2⟩
        · rintro ⟨k, Aa, ca⟩ wl0 ⟨hk, Ll0, sz0, f0_0, f0_1, f0_2, f0_3⟩
          have lb0_5 : w0_0.heap.size ≤ wl0.heap.size := by have := h1_3.size; have := h7_2.size; omega
          have lb0_6 : w0_0.heap.size ≤ wl0.heap.size := by have := h1_3.size; have := h7_2.size; omega
          have lb0_7 : w1_3.heap.size ≤ wl0.heap.size := by have := h7_2.size; omega
          refine WC.seq ?_
          refine WC.region ?_
          refine W.any (.lss rfl rfl) rfl rfl rfl ?_
          refine W.nil ?_
          refine E.thenN ?_
          refine WC.seq ?_
          by_cases c2 : ((k : Nat) : Int) < (((n - 1) : Nat) : Int)
          · refine WC.condY rfl (decide_eq_true c2) ?_
            refine WC.skip ?_
            refine E.thenN ?_
            refine WC.seq ?_
            refine WC.block ?_
            refine WC.seq ?_
            refine WC.region ?_
            refine W.any (.move rfl) rfl rfl rfl ?_
            refine W.any (.idxS (k) Try.underlying59 sz76 rfl rfl (v5.isSome edgeV_row (by omega)) (rfl) (by omega)) rfl rfl rfl ?_
            refine W.rd (.vload ag76 rfl (v5.le Ll0) edgeV_row (getS (xs.drop 1) noEdge (by first | omega | (simp only [List.length_cons, List.length_nil]; omega)))) rfl rfl rfl ?_
            refine W.ef rfl rfl rfl ?_
            refine Ef.allocA z76 ?_
            intro g10_3 w10_3 hg10_3 b10_3 h10_3
            have L9 := Ll0.trans h10_3
            have b10_3 : Blk w10_3 g10_3 76 (edgeV noEdge).toArray := b10_3
            refine W.any (.assign rfl) rfl rfl rfl ?_
            refine W.ef0 rfl rfl ?_
            refine Ef.storeAll sz76 (by rfl) rfl rfl b10_3 (by rfl) (edgeV_row.one ((xs.drop 1).getD k noEdge)) ?_
            intro w10_5 b10_5 h10_5
            have b10_5 : Blk w10_5 g10_3 76 (edgeV ((xs.drop 1).getD k noEdge)).toArray := b10_5
            have L10 : Le w w10_5 := L9.then_ h10_5 (fun q hq => by cases hq; exact Nat.le_trans Ll0.size hg10_3)
            refine W.nil ?_
            refine E.thenN ?_
            refine WC.draw [0, 1, 2, 3, 4, 5, 6, 7, 8, 9, 10, 11, 12, 13, 14, 15, 16, 17, 18, 19, 20, 21, 22, 23, 24, 25, 26, 27, 28, 29] mixed (by kernel_rfl) ?_
            intro w11 d11
            have L11 := L10.trans d11
            refine G.any rfl rfl (.move rfl) rfl rfl rfl ?_
            refine G.any rfl rfl (.field0 fa76_1 rfl) rfl rfl rfl ?_
            have f12 := (b10_5.le d11)
            refine G.rd rfl rfl (.loadB (v := .int .i64 (((xs.drop 1).getD k noEdge).t)) na3 rfl f12 rfl) rfl rfl rfl ?_
            refine G.any rfl rfl (.field0 fa76_2 rfl) rfl rfl rfl ?_
            refine G.rd rfl rfl (.loadB (v := .int .i64 (((xs.drop 1).getD k noEdge).c)) na3 rfl f12 rfl) rfl rfl rfl ?_
            refine G.any rfl rfl (.move rfl) rfl rfl rfl ?_
            refine G.any rfl rfl (.move rfl) rfl rfl rfl ?_
            refine G.any rfl rfl (.add rfl rfl (by omega)) rfl rfl rfl ?_
            refine G.any rfl rfl (.idxS ((k + 1)) Try.underlying53 sz3 rfl rfl (oa1_3.vec.isSome iv_row (by omega)) (by omega) (by omega)) rfl rfl rfl ?_
            have f13 := (((f0_1.le h10_3).ch h10_5 (fun q hq => by cases hq; exact (fun he => by have := (f0_1.row he).2; omega))).le d11)
            refine G.rd rfl rfl (.vone (v := .int .i64 ((C.1.getD (k + 1) 0))) na3 rfl f13.vec iv_row (getS C.1 0 (by first | omega | (simp only [List.length_cons, List.length_nil]; omega))) rfl) rfl rfl rfl ?_
            refine G.any rfl rfl (.move rfl) rfl rfl rfl ?_
            refine G.any rfl rfl (.move rfl) rfl rfl rfl ?_
            refine G.any rfl rfl (.add rfl rfl (by omega)) rfl rfl rfl ?_
            refine G.any rfl rfl (.idxS ((k + 1)) Try.underlying53 sz3 rfl rfl (ob1_3.vec.isSome iv_row (by omega)) (by omega) (by omega)) rfl rfl rfl ?_
            have f14 := (((f0_2.le h10_3).ch h10_5 (fun q hq => by cases hq; exact (fun he => by have := (f0_2.row he).2; omega))).le d11)
            refine G.rd rfl rfl (.vone (v := .int .i64 ((C.2.1.getD (k + 1) 0))) na3 rfl f14.vec iv_row (getS C.2.1 0 (by first | omega | (simp only [List.length_cons, List.length_nil]; omega))) rfl) rfl rfl rfl ?_
            refine G.any rfl rfl (.field0 fa63_0 rfl) rfl rfl rfl ?_
            have f15 := (((f0_0.le h10_3).ch h10_5 (fun h => (show g10_3 ≠ g0_0 from by have := f0_0.lt; omega) (Option.some.inj h))).le d11)
            refine G.rd rfl rfl (.loadB (v := .slice Ap np cp) na60 rfl f15 rfl) rfl rfl rfl ?_
            refine G.any rfl rfl (.move rfl) rfl rfl rfl ?_
            refine G.any rfl rfl (.add rfl rfl (by omega)) rfl rfl rfl ?_
            refine G.any rfl rfl (.idxS ((k + 1)) Try.underlying60 sz31 rfl rfl (hP.isSome pv1_row (by omega)) (by omega) (by omega)) rfl rfl rfl ?_
            refine G.rd rfl rfl (.vone (v := .int .u64 ((((pts.getD (k + 1) 0) : Nat) : Int))) na31 rfl (hP.le L11) pv1_row (getS pts 0 (by first | omega | (simp only [List.length_cons, List.length_nil]; omega))) rfl) rfl rfl rfl ?_
            refine G.any rfl rfl (.field0 fa63_1 rfl) rfl rfl rfl ?_
            refine G.rd rfl rfl (.loadB (v := .slice Ab nb cb) na61 rfl f15 rfl) rfl rfl rfl ?_
            refine G.any rfl rfl (.move rfl) rfl rfl rfl ?_
            refine G.any rfl rfl (.idxS (k) Try.underlying61 sz30 rfl rfl (hB.isSome pv1_row (by omega)) (rfl) (by omega)) rfl rfl rfl ?_
            refine G.rd rfl rfl (.vone (v := .int .u64 ((((bl.getD k 0) : Nat) : Int))) na30 rfl (hB.le L11) pv1_row (getS bl 0 (by first | omega | (simp only [List.length_cons, List.length_nil]; omega))) rfl) rfl rfl rfl ?_
            refine G.any rfl rfl (.buildP (hopV (((xs.drop 1).getD k noEdge).t, ((xs.drop 1).getD k noEdge).c, (C.1.getD (k + 1) 0), (C.2.1.getD (k + 1) 0), (pts.getD (k + 1) 0), (bl.getD k 0))) pl95 z95 rfl rfl) rfl rfl rfl ?_
            refine G.ef rfl rfl rfl rfl rfl ?_
            refine Ef.buildSliceV (len := 1) [_] Try.underlying66 el95 rfl (by simp [Value.cells, hopV_row.len]) rfl (by decide) (by decide) ?_
            intro g11_27 w11_27 hg11_27 b11_27 h11_27
            refine ⟨fun _ => h11_27, ?_⟩
            have L16 := L11.trans h11_27
            have b11_27 : Blk w11_27 g11_27 95 (([(((xs.drop 1).getD k noEdge).t, ((xs.drop 1).getD k noEdge).c, (C.1.getD (k + 1) 0), (C.2.1.getD (k + 1) 0), (pts.getD (k + 1) 0), (bl.getD k 0))]).map hopV).flatten.toArray := b11_27
            have o11_27 : OVec w11_27 w11.heap.size 95 hopV 6 (some ⟨g11_27, 0, none⟩) 1 1 ([(((xs.drop 1).getD k noEdge).t, ((xs.drop 1).getD k noEdge).c, (C.1.getD (k + 1) 0), (C.2.1.getD (k + 1) 0), (pts.getD (k + 1) 0), (bl.getD k 0))]) := b11_27.ovec hg11_27 hopV_row rfl rfl (by decide)
            have f17 := (((f0_3.le h10_3).ch h10_5 (fun q hq => by cases hq; exact (fun he => by have := (f0_3.row he).2; omega))).le (d11.trans h11_27))
            refine G.ef rfl rfl rfl rfl rfl ?_
            refine Ef.vpush (a := (((xs.drop 1).getD k noEdge).t, ((xs.drop 1).getD k noEdge).c, (C.1.getD (k + 1) 0), (C.2.1.getD (k + 1) 0), (pts.getD (k + 1) 0), (bl.getD k 0))) Try.underlying66 el95 Try.underlying66 hopV_row rfl f17 rfl b11_27 (by omega) (by unfold maxLen; omega) (by have := lb0_7; have := h10_3.size; have := h10_5.size; have := d11.size; have := h11_27.size; omega) ?_
            intro A11_28 c11_28 w11_28 o11_28 h11_28 at11_28
            refine ⟨fun h => absurd h (ne_true_of_eq_false (by kernel_rfl)), ?_⟩
            have L18 : Le w w11_28 := L16.then_ h11_28 (fun q hq => Nat.le_trans L2.size (f17.row hq).1)
            refine G.any rfl rfl (.assign rfl) rfl rfl rfl ?_
            refine G.nil ?_
            refine E.blkN ?_
            refine E.thenN ?_
            refine WC.region ?_
            refine W.any (.add rfl rfl (by omega)) rfl rfl rfl ?_
            refine W.any (.move rfl) rfl rfl rfl ?_
            refine W.nil ?_
            have f19 := ((f15.le h11_27).ch h11_28 (fun he => by have := (f17.row he).1; have := f3.lt; omega))
            have f20 := ((f13.le h11_27).ch h11_28 ((Apart.symm (fun q h1 h2 => by have := (oa1_3.row h1).2; have := (f17.row h2).1; omega))))
            have f21 := ((f14.le h11_27).ch h11_28 ((Apart.symm (fun q h1 h2 => by have := (ob1_3.row h1).2; have := (f17.row h2).1; omega))))
            refine E.again (k + 1, A11_28, c11_28) (.cons rfl (.cons rfl (.cons rfl (.cons rfl (.cons rfl (.cons rfl (.cons rfl (.cons rfl (.cons rfl (.cons rfl (.nil _))))))))))) ?_ ?_
            · exact ⟨by omega, L18, by have := sz0; have := h10_3.size; have := h10_5.size; have := d11.size; have := h11_27.size; have := h11_28.size; omega, f19, f20, f21, (o11_28).cast rfl (hops_next _ _ _ _ _ _)⟩
            · first | omega | (simp only []; omega)
          · refine WC.condN rfl (decide_eq_false c2) ?_
            refine WC.exit ?_
            refine E.thenX ?_
            refine E.thenX ?_
            refine E.blkH ?_
            refine E.thenN ?_
            refine WC.seq ?_
            refine WC.region ?_
            refine W.any (.move rfl) rfl rfl rfl ?_
            refine W.any (.move rfl) rfl rfl rfl ?_
            refine W.any (.move rfl) rfl rfl rfl ?_
            refine W.any (.field0 fa63_0 rfl) rfl rfl rfl ?_
            refine W.rd (.loadB (v := .slice Ap np cp) na60 rfl f0_0 rfl) rfl rfl rfl ?_
            refine W.any (.move rfl) rfl rfl rfl ?_
            refine W.any (.idxS ((n - 1)) Try.underlying60 sz31 rfl rfl (hP.isSome pv1_row (by omega)) (by omega) (by omega)) rfl rfl rfl ?_
            refine W.rd (.vone (v := .int .u64 ((((pts.getD (n - 1) 0) : Nat) : Int))) na31 rfl (hP.le Ll0) pv1_row (getS pts 0 (by first | omega | (simp only [List.length_cons, List.length_nil]; omega))) rfl) rfl rfl rfl ?_
            refine W.any (.buildP (hopV ((-1), 0, a, x, (pts.getD (n - 1) 0), 0)) pl95 z95 rfl rfl) rfl rfl rfl ?_
            refine W.ef rfl rfl rfl ?_
            refine Ef.buildSliceV (len := 1) [_] Try.underlying66 el95 rfl (by simp [Value.cells, hopV_row.len]) rfl (by decide) (by decide) ?_
            intro g13_9 w13_9 hg13_9 b13_9 h13_9
            have L22 := Ll0.trans h13_9
            have b13_9 : Blk w13_9 g13_9 95 (([((-1), 0, a, x, (pts.getD (n - 1) 0), 0)]).map hopV).flatten.toArray := b13_9
            have o13_9 : OVec w13_9 wl0.heap.size 95 hopV 6 (some ⟨g13_9, 0, none⟩) 1 1 ([((-1), 0, a, x, (pts.getD (n - 1) 0), 0)]) := b13_9.ovec hg13_9 hopV_row rfl rfl (by decide)
            have f23 := (f0_3.le h13_9)
            refine W.ef rfl rfl rfl ?_
            refine Ef.vpush (a := ((-1), 0, a, x, (pts.getD (n - 1) 0), 0)) Try.underlying66 el95 Try.underlying66 hopV_row rfl f23 rfl b13_9 (by omega) (by unfold maxLen; omega) (by have := lb0_7; have := h13_9.size; omega) ?_
            intro A13_10 c13_10 w13_10 o13_10 h13_10 at13_10
            have L24 : Le w w13_10 := L22.then_ h13_10 (fun q hq => Nat.le_trans L2.size (f23.row hq).1)
            refine W.any (.assign rfl) rfl rfl rfl ?_
            refine W.any (.assign rfl) rfl rfl rfl ?_
            refine W.nil ?_
            refine E.thenN ?_
            refine WC.ret ?_
            refine E.retG2 rfl rfl rfl ?_
            have hg : hopsG xs a x pts bl = (hopsL xs C.1 C.2.1 pts bl a x, 0) := by rw [hg0, if_neg (by omega), if_neg (by omega)]
            have hk1 : k = xs.length - 1 := by omega
            subst hk1
            exact ⟨A13_10, c13_10, by rw [hg]; simp [hopsL], by rw [hg]; exact ((o13_10.mono L2.size)).cast (by simp [hopsL]) (by unfold hopsL; rw [hl]), L24⟩
end Go.Proofs.Ytfgakofjkldcjaa
