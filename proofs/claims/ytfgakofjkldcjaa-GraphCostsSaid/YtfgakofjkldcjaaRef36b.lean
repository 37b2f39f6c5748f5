/- The document's ways, costs and hops (layer 36), walked. -/
import Derived.Test.YtfgakofjkldcjaaRef36
import Derived.Test.YtfgakofjkldcjaaGsp5
namespace Go.Proofs.Ytfgakofjkldcjaa
open Go Go.Sx Go.Hsp Go.Num Go.Osp Go.Gsp
set_option maxRecDepth 20000
set_option linter.unusedSimpArgs false
set_option linter.unusedVariables false
theorem rep_at0 {k : Nat} (l : List Int) (v : Int) (i : Nat) (h : i = k) : (List.replicate k 0 ++ v :: l)[i]? = some v := by
  subst h; rw [List.getElem?_append_right (by simp)]; simp
theorem rep_at1 {f : Int × Int → Int} {j : Nat} (l : List (Int × Int)) (v : Int) (h : 0 < j) (hl : 0 < l.length) : (List.replicate (j - 1) 0 ++ v :: l.map f)[j]? = some (f (l.getD 0 (0, 0))) := by
  rw [List.getElem?_append_right (by simp), List.length_replicate, show j - (j - 1) = 1 by omega]
  cases l with
  | nil => simp at hl
  | cons p l => rfl
theorem rep_set2 (l : List Int) (v u : Int) (k : Nat) : (List.replicate k 0 ++ v :: l).set k u = List.replicate k 0 ++ u :: l := by
  rw [List.set_append_right _ _ (by simp)]; simp
theorem inB_min (a l m r : Int) : inB a l (min m r) = true ↔ inB a l m = true ∧ ¬ r < a := by
  simp only [inB, decide_eq_true_eq]
  constructor
  · intro h; omega
  · intro h; omega
theorem costF_nx {a x : Int} {xs : List Gsp.Edge} {j : Nat} {nx : Option (Int × Int)} {l : List (Int × Int)} (h : costF a x (xs.drop j) = .ok (nx, l)) (hj : j < xs.length) : nx = nextC (xs.getD j noEdge) (l.getD 0 (0, 0)).1 (l.getD 0 (0, 0)).2 ∧ (l.getD 0 (0, 0)).2 ≤ 1048576 := by
  obtain ⟨h1, h2, h3, h4⟩ := costF_at (xs.drop j) nx l h
  rw [if_neg (by rw [List.length_drop]; omega), getD_drop', Nat.add_zero] at h4
  have := (h1 0 (by rw [List.length_drop]; omega)).2
  exact ⟨h4, by omega⟩
theorem ahead_ok (a b : Gsp.Edge) (w : World) : Calls Try.prog 44 #[.agg (edgeV a).toArray, .agg (edgeV b).toArray] w fun r w' => r = .returned (.bool (decide (ordE a b < 0))) ∧ Le w w' := by
  refine enter Try.func44 rfl rfl ?_
  have L0 := Le.refl w
  refine WC.seq ?_
  refine WC.region ?_
  refine W.ef rfl rfl rfl ?_
  refine Ef.boxA rfl ?_
  intro g0_0 w0_0 hg0_0 b0_0 h0_0
  have L1 := L0.trans h0_0
  have b0_0 : Blk w0_0 g0_0 76 (edgeV a).toArray := b0_0
  refine W.ef rfl rfl rfl ?_
  refine Ef.boxA rfl ?_
  intro g0_1 w0_1 hg0_1 b0_1 h0_1
  have L2 := L1.trans h0_1
  have b0_1 : Blk w0_1 g0_1 76 (edgeV b).toArray := b0_1
  refine W.any (.assign rfl) rfl rfl rfl ?_
  refine W.nil ?_
  refine E.thenN ?_
  refine WC.seq ?_
  refine WC.region ?_
  refine W.any (.field0 fa76_2 rfl) rfl rfl rfl ?_
  have f3 := (b0_0.le h0_1)
  refine W.rd (.loadB na3 rfl f3 rfl) rfl rfl rfl ?_
  refine W.any (.field0 fa76_2 rfl) rfl rfl rfl ?_
  refine W.rd (.loadB na3 rfl b0_1 rfl) rfl rfl rfl ?_
  refine W.any (.lss rfl rfl) rfl rfl rfl ?_
  by_cases q1_5 : a.c < b.c
  · refine W.any (.dec (.move rfl) (decide_eq_true q1_5)) rfl rfl rfl ?_
    refine W.skip rfl rfl rfl (rfl) rfl rfl ?_
    refine W.skip rfl rfl rfl (rfl) rfl rfl ?_
    refine W.skip rfl rfl rfl (rfl) rfl rfl ?_
    refine W.skip rfl rfl rfl (rfl) rfl rfl ?_
    refine W.skip rfl rfl rfl (rfl) rfl rfl ?_
    refine W.skip rfl rfl rfl (rfl) rfl rfl ?_
    refine W.skipu rfl rfl rfl rfl rfl ?_
    refine W.skipu rfl rfl rfl rfl rfl ?_
    refine W.skipu rfl rfl rfl rfl rfl ?_
    refine W.skipu rfl rfl rfl rfl rfl ?_
    refine W.skipu rfl rfl rfl rfl rfl ?_
    refine W.skip rfl rfl rfl (rfl) rfl rfl ?_
    refine W.any (.pickT rfl rfl rfl) rfl rfl rfl ?_
    refine W.any (.assign rfl) rfl rfl rfl ?_
    refine W.nil ?_
    refine E.thenN ?_
    refine WC.ret ?_
    refine E.retG1 rfl rfl ?_
    exact ⟨congrArg (fun b => Ending.returned (Value.bool b)) (by unfold ordE cmpI; rw [Bool.eq_iff_iff]; simp only [decide_eq_true_eq]; (split <;> (repeat' split) <;> simp_all <;> omega)), L2⟩
  · refine W.any (.dec (.move rfl) (decide_eq_false q1_5)) rfl rfl rfl ?_
    refine W.rdg (Any.rd (.field0 fa76_2 rfl) _) rfl rfl rfl (rfl) rfl rfl ?_
    refine W.rdg (.loadB na3 rfl f3 rfl) rfl rfl rfl (rfl) rfl rfl ?_
    refine W.rdg (Any.rd (.field0 fa76_2 rfl) _) rfl rfl rfl (rfl) rfl rfl ?_
    refine W.rdg (.loadB na3 rfl b0_1 rfl) rfl rfl rfl (rfl) rfl rfl ?_
    refine W.rdg (Any.rd (.eql rfl rfl) _) rfl rfl rfl (rfl) rfl rfl ?_
    by_cases q1_11 : a.c = b.c
    · refine W.rdg (Any.rd (.dec (.move rfl) (decide_eq_true q1_11)) _) rfl rfl rfl (rfl) rfl rfl ?_
      refine W.rdg (Any.rd (.field0 fa76_0 rfl) _) rfl rfl rfl (rfl) rfl rfl ?_
      refine W.rdg (.loadB na3 rfl f3 rfl) rfl rfl rfl (rfl) rfl rfl ?_
      refine W.rdg (Any.rd (.field0 fa76_0 rfl) _) rfl rfl rfl (rfl) rfl rfl ?_
      refine W.rdg (.loadB na3 rfl b0_1 rfl) rfl rfl rfl (rfl) rfl rfl ?_
      refine W.rdg (Any.rd (.lss rfl rfl) _) rfl rfl rfl (rfl) rfl rfl ?_
      refine W.rdg (Any.rd (.pickT rfl rfl rfl) _) rfl rfl rfl (rfl) rfl rfl ?_
      refine W.any (.pickF rfl rfl rfl) rfl rfl rfl ?_
      refine W.any (.assign rfl) rfl rfl rfl ?_
      refine W.nil ?_
      refine E.thenN ?_
      refine WC.ret ?_
      refine E.retG1 rfl rfl ?_
      exact ⟨congrArg (fun b => Ending.returned (Value.bool b)) (by unfold ordE cmpI; rw [Bool.eq_iff_iff]; simp only [decide_eq_true_eq]; (split <;> (repeat' split) <;> simp_all <;> omega)), L2⟩
    · refine W.rdg (Any.rd (.dec (.move rfl) (decide_eq_false q1_11)) _) rfl rfl rfl (rfl) rfl rfl ?_
      refine W.skip rfl rfl rfl (rfl) rfl rfl ?_
      refine W.skip rfl rfl rfl (rfl) rfl rfl ?_
      refine W.skip rfl rfl rfl (rfl) rfl rfl ?_
      refine W.skip rfl rfl rfl (rfl) rfl rfl ?_
      refine W.skip rfl rfl rfl (rfl) rfl rfl ?_
      refine W.rdg (Any.rd (.pickF rfl rfl rfl) _) rfl rfl rfl (rfl) rfl rfl ?_
      refine W.any (.pickF rfl rfl rfl) rfl rfl rfl ?_
      refine W.any (.assign rfl) rfl rfl rfl ?_
      refine W.nil ?_
      refine E.thenN ?_
      refine WC.ret ?_
      refine E.retG1 rfl rfl ?_
      exact ⟨congrArg (fun b => Ending.returned (Value.bool b)) (by unfold ordE cmpI; rw [Bool.eq_iff_iff]; simp only [decide_eq_true_eq]; (split <;> (repeat' split) <;> simp_all <;> omega)), L2⟩

theorem r36way_ok {A : Option Addr} {n c : Nat} {xs : List Gsp.Edge} (w : World) (hV : Vec w edgeV 9 A n xs) (hn : n ≤ 1000000) : Calls Try.prog 76 #[.slice A n c] w fun r w' => r = .returned (.bool (wayG xs)) ∧ Le w w' := by
  have hl := hV.1
  refine enter Try.func76 rfl rfl ?_
  have L0 := Le.refl w
  refine WC.seq ?_
  refine WC.region ?_
  refine W.any (.assign rfl) rfl rfl rfl ?_
  refine W.nil ?_
  refine E.thenN ?_
  refine WC.seq ?_
  refine WC.seq ?_
  refine WC.region ?_
  refine W.any (.move rfl) rfl rfl rfl ?_
  refine W.rd (.len Try.underlying59 rfl) rfl rfl rfl ?_
  refine W.any (.lss rfl rfl) rfl rfl rfl ?_
  by_cases q1_3 : ((n : Nat) : Int) < 1
  · refine W.any (.dec (.move rfl) (decide_eq_true q1_3)) rfl rfl rfl ?_
    refine W.skip rfl rfl rfl (rfl) rfl rfl ?_
    refine W.skip rfl rfl rfl (rfl) rfl rfl ?_
    refine W.skip rfl rfl rfl (rfl) rfl rfl ?_
    refine W.any (.pickT rfl rfl rfl) rfl rfl rfl ?_
    refine W.nil ?_
    refine E.thenN ?_
    refine WC.condT rfl ?_
    refine WC.seq ?_
    refine WC.region ?_
    refine W.any (.assign rfl) rfl rfl rfl ?_
    refine W.nil ?_
    refine E.thenN ?_
    refine WC.ret ?_
    refine E.thenR ?_
    refine E.retG1 rfl rfl ?_
    exact ⟨congrArg (fun b => Ending.returned (Value.bool b)) (decide_eq_false (fun hr => by have := hr.1; omega)).symm, L0⟩
  · refine W.any (.dec (.move rfl) (decide_eq_false q1_3)) rfl rfl rfl ?_
    refine W.rdg (Any.rd (.move rfl) _) rfl rfl rfl (rfl) rfl rfl ?_
    refine W.rdg (.len Try.underlying59 rfl) rfl rfl rfl (rfl) rfl rfl ?_
    refine W.rdg (Any.rd (.gtr rfl rfl) _) rfl rfl rfl (rfl) rfl rfl ?_
    refine W.any (.pickF rfl rfl rfl) rfl rfl rfl ?_
    refine W.nil ?_
    refine E.thenN ?_
    by_cases c0 : 8 < ((n : Nat) : Int)
    · refine WC.condY rfl (decide_eq_true c0) ?_
      refine WC.seq ?_
      refine WC.region ?_
      refine W.any (.assign rfl) rfl rfl rfl ?_
      refine W.nil ?_
      refine E.thenN ?_
      refine WC.ret ?_
      refine E.thenR ?_
      refine E.retG1 rfl rfl ?_
      exact ⟨congrArg (fun b => Ending.returned (Value.bool b)) (decide_eq_false (fun hr => by have := hr.1; omega)).symm, L0⟩
    · refine WC.condN rfl (decide_eq_false c0) ?_
      refine WC.skip ?_
      refine E.thenN ?_
      refine WC.seq ?_
      refine WC.seq ?_
      refine WC.region ?_
      refine W.any (.assign rfl) rfl rfl rfl ?_
      refine W.nil ?_
      refine E.thenN ?_
      refine WC.block ?_
      refine WC.loop (ι := Nat) (fun k => [(0, .slice A n c), (3, .int .i64 (((k : Nat) : Int)))]) (fun k wl0 => (k ≤ n) ∧ (∀ j, j < k → WayAt xs j) ∧ Le w wl0 ∧ w.heap.size ≤ wl0.heap.size) (fun k => n - k) 0 ?_ ?_ ?_
      · exact .cons rfl (.cons rfl (.nil _))
      · exact ⟨Nat.zero_le _, fun j hj => absurd hj (Nat.not_lt_zero _), L0, Nat.le_refl _⟩
      · rintro k wl0 ⟨hk, hz, Ll0, sz0⟩
        refine WC.seq ?_
        refine WC.seq ?_
        refine WC.region ?_
        refine W.any (.move rfl) rfl rfl rfl ?_
        refine W.any (.move rfl) rfl rfl rfl ?_
        refine W.rd (.len Try.underlying59 rfl) rfl rfl rfl ?_
        refine W.any (.lss rfl rfl) rfl rfl rfl ?_
        refine W.nil ?_
        refine E.thenN ?_
        by_cases c1 : ((k : Nat) : Int) < ((n : Nat) : Int)
        · refine WC.condY rfl (decide_eq_true c1) ?_
          refine WC.skip ?_
          refine E.thenN ?_
          refine WC.seq ?_
          refine WC.block ?_
          refine WC.seq ?_
          refine WC.seq ?_
          refine WC.draw [0, 1, 2, 3, 4, 5, 6, 7, 8, 9, 10, 11, 12, 13, 14, 15, 16, 17, 18, 19, 20, 21, 22, 23] mixed (by kernel_rfl) ?_
          intro w6 d6
          have L1 := Ll0.trans d6
          refine G.any rfl rfl (.move rfl) rfl rfl rfl ?_
          refine G.any rfl rfl (.move rfl) rfl rfl rfl ?_
          refine G.any rfl rfl (.idxS (k) Try.underlying59 sz76 rfl rfl (hV.isSome edgeV_row (by omega)) (rfl) (by omega)) rfl rfl rfl ?_
          refine G.rd rfl rfl (.vload ag76 rfl (hV.le L1) edgeV_row (getS xs noEdge (by first | omega | (simp only [List.length_cons, List.length_nil]; omega)))) rfl rfl rfl ?_
          refine G.ef rfl rfl rfl rfl rfl ?_
          refine Ef.call go130 rfl rfl (r36edge_ok (xs.getD k noEdge) w6) ?_
          rintro _ w6_4 ⟨rfl, h6_4⟩
          refine ⟨_, rfl, ?_⟩
          refine ⟨fun _ => h6_4, ?_⟩
          have L2 := L1.trans h6_4
          refine G.any rfl rfl (.not rfl) rfl rfl rfl ?_
          by_cases q6_6 : edgeOk (xs.getD k noEdge) = true
          · refine G.any rfl rfl (.dec (.move rfl) (congrArg not (q6_6))) rfl rfl rfl ?_
            refine G.anyg rfl rfl (.move rfl) rfl rfl rfl (rfl) rfl rfl ?_
            refine G.anyg rfl rfl (.gtr rfl rfl) rfl rfl rfl (rfl) rfl rfl ?_
            by_cases q6_9 : 0 < ((k : Nat) : Int)
            · refine G.anyg rfl rfl (.dec (.move rfl) (decide_eq_true q6_9)) rfl rfl rfl (rfl) rfl rfl ?_
              refine G.anyg rfl rfl (.move rfl) rfl rfl rfl (rfl) rfl rfl ?_
              refine G.anyg rfl rfl (.move rfl) rfl rfl rfl (rfl) rfl rfl ?_
              refine G.anyg rfl rfl (.idxS (k) Try.underlying59 sz76 rfl rfl (hV.isSome edgeV_row (by omega)) (rfl) (by omega)) rfl rfl rfl (rfl) rfl rfl ?_
              refine G.anyg rfl rfl (.vfield fa76_0 (hV.isSome edgeV_row (by omega)) rfl) rfl rfl rfl (rfl) rfl rfl ?_
              refine G.rdg rfl rfl (.vcell (j := k) (o := 0) na3 rfl (hV.le L2) edgeV_row (getS xs noEdge (by first | omega | (simp only [List.length_cons, List.length_nil]; omega))) rfl) rfl rfl rfl (rfl) rfl rfl ?_
              refine G.anyg rfl rfl (.move rfl) rfl rfl rfl (rfl) rfl rfl ?_
              refine G.anyg rfl rfl (.move rfl) rfl rfl rfl (rfl) rfl rfl ?_
              refine G.anyg rfl rfl (.sub rfl rfl (by omega)) rfl rfl rfl (rfl) rfl rfl ?_
              refine G.anyg rfl rfl (.idxS ((k - 1)) Try.underlying59 sz76 rfl rfl (hV.isSome edgeV_row (by omega)) (by omega) (by omega)) rfl rfl rfl (rfl) rfl rfl ?_
              refine G.anyg rfl rfl (.vfield fa76_1 (hV.isSome edgeV_row (by omega)) rfl) rfl rfl rfl (rfl) rfl rfl ?_
              refine G.rdg rfl rfl (.vcell (j := (k - 1)) (o := 1) na3 rfl (hV.le L2) edgeV_row (getS xs noEdge (by first | omega | (simp only [List.length_cons, List.length_nil]; omega))) rfl) rfl rfl rfl (rfl) rfl rfl ?_
              refine G.anyg rfl rfl (.neq rfl rfl) rfl rfl rfl (rfl) rfl rfl ?_
              refine G.anyg rfl rfl (.pickT rfl rfl rfl) rfl rfl rfl (rfl) rfl rfl ?_
              refine G.any rfl rfl (.pickF rfl rfl rfl) rfl rfl rfl ?_
              refine G.nil ?_
              refine E.thenN ?_
              by_cases c2 : ((xs.getD k noEdge).f) ≠ ((xs.getD (k - 1) noEdge).t)
              · refine WC.condY rfl (decide_eq_true c2) ?_
                refine WC.seq ?_
                refine WC.region ?_
                refine W.any (.assign rfl) rfl rfl rfl ?_
                refine W.nil ?_
                refine E.thenN ?_
                refine WC.ret ?_
                refine E.thenR ?_
                refine E.blkR ?_
                refine E.thenR ?_
                refine E.thenR ?_
                refine E.blkR ?_
                refine E.thenR ?_
                refine E.retG1 rfl rfl ?_
                exact ⟨congrArg (fun b => Ending.returned (Value.bool b)) (decide_eq_false (fun hr => by have hr := hr.2 k (by omega); first | exact absurd hr.1 (by assumption) | exact hr.2.2 i (by omega) (by assumption) | (have := hr.2.1; omega))).symm, L2⟩
              · refine WC.condN rfl (decide_eq_false c2) ?_
                refine WC.skip ?_
                refine E.thenN ?_
                refine WC.seq ?_
                refine WC.region ?_
                refine W.any (.assign rfl) rfl rfl rfl ?_
                refine W.nil ?_
                refine E.thenN ?_
                refine WC.block ?_
                refine WC.loop (ι := Nat) (fun i => [(0, .slice A n c), (3, .int .i64 (((k : Nat) : Int))), (4, .int .i64 (((i : Nat) : Int)))]) (fun i wl1 => (i ≤ k + 1) ∧ (∀ q, q < i → (xs.getD q noEdge).f ≠ (xs.getD k noEdge).t) ∧ Le w wl1 ∧ w6_4.heap.size ≤ wl1.heap.size) (fun i => k + 1 - i) 0 ?_ ?_ ?_
                · exact .cons rfl (.cons rfl (.cons rfl (.nil _)))
                · exact ⟨Nat.zero_le _, fun j hj => absurd hj (Nat.not_lt_zero _), L2, Nat.le_refl _⟩
                · rintro i wl1 ⟨hi, hy, Ll1, sz1⟩
                  refine WC.seq ?_
                  refine WC.seq ?_
                  refine WC.region ?_
                  refine W.any (.move rfl) rfl rfl rfl ?_
                  refine W.any (.move rfl) rfl rfl rfl ?_
                  refine W.any (.leq rfl rfl) rfl rfl rfl ?_
                  refine W.nil ?_
                  refine E.thenN ?_
                  by_cases c3 : ((i : Nat) : Int) ≤ ((k : Nat) : Int)
                  · refine WC.condY rfl (decide_eq_true c3) ?_
                    refine WC.skip ?_
                    refine E.thenN ?_
                    refine WC.seq ?_
                    refine WC.block ?_
                    refine WC.seq ?_
                    refine WC.draw [0, 1, 2, 3, 4, 5, 6, 7, 8, 9, 10] mixed (by kernel_rfl) ?_
                    intro w11 d11
                    have L3 := Ll1.trans d11
                    refine G.any rfl rfl (.move rfl) rfl rfl rfl ?_
                    refine G.any rfl rfl (.move rfl) rfl rfl rfl ?_
                    refine G.any rfl rfl (.idxS (i) Try.underlying59 sz76 rfl rfl (hV.isSome edgeV_row (by omega)) (rfl) (by omega)) rfl rfl rfl ?_
                    refine G.any rfl rfl (.vfield fa76_0 (hV.isSome edgeV_row (by omega)) rfl) rfl rfl rfl ?_
                    refine G.rd rfl rfl (.vcell (j := i) (o := 0) na3 rfl (hV.le L3) edgeV_row (getS xs noEdge (by first | omega | (simp only [List.length_cons, List.length_nil]; omega))) rfl) rfl rfl rfl ?_
                    refine G.any rfl rfl (.move rfl) rfl rfl rfl ?_
                    refine G.any rfl rfl (.move rfl) rfl rfl rfl ?_
                    refine G.any rfl rfl (.idxS (k) Try.underlying59 sz76 rfl rfl (hV.isSome edgeV_row (by omega)) (rfl) (by omega)) rfl rfl rfl ?_
                    refine G.any rfl rfl (.vfield fa76_1 (hV.isSome edgeV_row (by omega)) rfl) rfl rfl rfl ?_
                    refine G.rd rfl rfl (.vcell (j := k) (o := 1) na3 rfl (hV.le L3) edgeV_row (getS xs noEdge (by first | omega | (simp only [List.length_cons, List.length_nil]; omega))) rfl) rfl rfl rfl ?_
                    refine G.any rfl rfl (.eql rfl rfl) rfl rfl rfl ?_
                    refine G.nil ?_
                    refine E.thenN ?_
                    by_cases c4 : ((xs.getD i noEdge).f) = ((xs.getD k noEdge).t)
                    · refine WC.condY rfl (decide_eq_true c4) ?_
                      refine WC.seq ?_
                      refine WC.region ?_
                      refine W.any (.assign rfl) rfl rfl rfl ?_
                      refine W.nil ?_
                      refine E.thenN ?_
                      refine WC.ret ?_
                      refine E.blkR ?_
                      refine E.thenR ?_
                      refine E.thenR ?_
                      refine E.blkR ?_
                      refine E.blkR ?_
                      refine E.thenR ?_
                      refine E.thenR ?_
                      refine E.blkR ?_
                      refine E.thenR ?_
                      refine E.retG1 rfl rfl ?_
                      exact ⟨congrArg (fun b => Ending.returned (Value.bool b)) (decide_eq_false (fun hr => by have hr := hr.2 k (by omega); first | exact absurd hr.1 (by assumption) | exact hr.2.2 i (by omega) (by assumption) | (have := hr.2.1; omega))).symm, L3⟩
                    · refine WC.condN rfl (decide_eq_false c4) ?_
                      refine WC.skip ?_
                      refine E.blkN ?_
                      refine E.thenN ?_
                      refine WC.region ?_
                      refine W.any (.move rfl) rfl rfl rfl ?_
                      refine W.any (.add rfl rfl (by omega)) rfl rfl rfl ?_
                      refine W.any (.assign rfl) rfl rfl rfl ?_
                      refine W.nil ?_
                      refine E.again (i + 1) (.cons rfl (.cons rfl (.cons rfl (.nil _)))) ?_ ?_
                      · exact ⟨by omega, fun j hj => by rcases Nat.lt_or_ge j i with h | h; exact hy j h; rw [show j = i by omega]; exact c4, L3, by have := sz1; have := d11.size; omega⟩
                      · first | omega | (simp only []; omega)
                  · refine WC.condN rfl (decide_eq_false c3) ?_
                    refine WC.exit ?_
                    refine E.thenX ?_
                    refine E.thenX ?_
                    refine E.blkH ?_
                    refine E.blkN ?_
                    refine E.thenN ?_
                    refine WC.region ?_
                    refine W.any (.move rfl) rfl rfl rfl ?_
                    refine W.any (.add rfl rfl (by omega)) rfl rfl rfl ?_
                    refine W.any (.assign rfl) rfl rfl rfl ?_
                    refine W.nil ?_
                    refine E.again (k + 1) (.cons rfl (.cons rfl (.nil _))) ?_ ?_
                    · exact ⟨by omega, fun j hj => by rcases Nat.lt_or_ge j k with h | h; exact hz j h; rw [show j = k by omega]; exact ⟨by assumption, fun h0 => by omega, fun q hq => hy q (by omega)⟩, Ll1, by have := sz0; have := sz1; have := d6.size; have := h6_4.size; omega⟩
                    · first | omega | (simp only []; omega)
            · refine G.anyg rfl rfl (.dec (.move rfl) (decide_eq_false q6_9)) rfl rfl rfl (rfl) rfl rfl ?_
              refine G.skip rfl rfl rfl rfl (rfl) rfl rfl ?_
              refine G.skip rfl rfl rfl rfl (rfl) rfl rfl ?_
              refine G.skip rfl rfl rfl rfl (rfl) rfl rfl ?_
              refine G.skip rfl rfl rfl rfl (rfl) rfl rfl ?_
              refine G.skip rfl rfl rfl rfl (rfl) rfl rfl ?_
              refine G.skip rfl rfl rfl rfl (rfl) rfl rfl ?_
              refine G.skip rfl rfl rfl rfl (rfl) rfl rfl ?_
              refine G.skip rfl rfl rfl rfl (rfl) rfl rfl ?_
              refine G.skip rfl rfl rfl rfl (rfl) rfl rfl ?_
              refine G.skip rfl rfl rfl rfl (rfl) rfl rfl ?_
              refine G.skip rfl rfl rfl rfl (rfl) rfl rfl ?_
              refine G.skip rfl rfl rfl rfl (rfl) rfl rfl ?_
              refine G.anyg rfl rfl (.pickF rfl rfl rfl) rfl rfl rfl (rfl) rfl rfl ?_
              refine G.any rfl rfl (.pickF rfl rfl rfl) rfl rfl rfl ?_
              refine G.nil ?_
              refine E.thenN ?_
              refine WC.condF rfl ?_
              refine WC.skip ?_
              refine E.thenN ?_
              refine WC.seq ?_
              refine WC.region ?_
              refine W.any (.assign rfl) rfl rfl rfl ?_
              refine W.nil ?_
              refine E.thenN ?_
              refine WC.block ?_
              refine WC.loop (ι := Nat) (fun i => [(0, .slice A n c), (3, .int .i64 (((k : Nat) : Int))), (4, .int .i64 (((i : Nat) : Int)))]) (fun i wl1 => (i ≤ k + 1) ∧ (∀ q, q < i → (xs.getD q noEdge).f ≠ (xs.getD k noEdge).t) ∧ Le w wl1 ∧ w6_4.heap.size ≤ wl1.heap.size) (fun i => k + 1 - i) 0 ?_ ?_ ?_
              · exact .cons rfl (.cons rfl (.cons rfl (.nil _)))
              · exact ⟨Nat.zero_le _, fun j hj => absurd hj (Nat.not_lt_zero _), L2, Nat.le_refl _⟩
              · rintro i wl1 ⟨hi, hy, Ll1, sz1⟩
                refine WC.seq ?_
                refine WC.seq ?_
                refine WC.region ?_
                refine W.any (.move rfl) rfl rfl rfl ?_
                refine W.any (.move rfl) rfl rfl rfl ?_
                refine W.any (.leq rfl rfl) rfl rfl rfl ?_
                refine W.nil ?_
                refine E.thenN ?_
                by_cases c3 : ((i : Nat) : Int) ≤ ((k : Nat) : Int)
                · refine WC.condY rfl (decide_eq_true c3) ?_
                  refine WC.skip ?_
                  refine E.thenN ?_
                  refine WC.seq ?_
                  refine WC.block ?_
                  refine WC.seq ?_
                  refine WC.draw [0, 1, 2, 3, 4, 5, 6, 7, 8, 9, 10] mixed (by kernel_rfl) ?_
                  intro w11 d11
                  have L4 := Ll1.trans d11
                  refine G.any rfl rfl (.move rfl) rfl rfl rfl ?_
                  refine G.any rfl rfl (.move rfl) rfl rfl rfl ?_
                  refine G.any rfl rfl (.idxS (i) Try.underlying59 sz76 rfl rfl (hV.isSome edgeV_row (by omega)) (rfl) (by omega)) rfl rfl rfl ?_
                  refine G.any rfl rfl (.vfield fa76_0 (hV.isSome edgeV_row (by omega)) rfl) rfl rfl rfl ?_
                  refine G.rd rfl rfl (.vcell (j := i) (o := 0) na3 rfl (hV.le L4) edgeV_row (getS xs noEdge (by first | omega | (simp only [List.length_cons, List.length_nil]; omega))) rfl) rfl rfl rfl ?_
                  refine G.any rfl rfl (.move rfl) rfl rfl rfl ?_
                  refine G.any rfl rfl (.move rfl) rfl rfl rfl ?_
                  refine G.any rfl rfl (.idxS (k) Try.underlying59 sz76 rfl rfl (hV.isSome edgeV_row (by omega)) (rfl) (by omega)) rfl rfl rfl ?_
                  refine G.any rfl rfl (.vfield fa76_1 (hV.isSome edgeV_row (by omega)) rfl) rfl rfl rfl ?_
                  refine G.rd rfl rfl (.vcell (j := k) (o := 1) na3 rfl (hV.le L4) edgeV_row (getS xs noEdge (by first | omega | (simp only [List.length_cons, List.length_nil]; omega))) rfl) rfl rfl rfl ?_
                  refine G.any rfl rfl (.eql rfl rfl) rfl rfl rfl ?_
                  refine G.nil ?_
                  refine E.thenN ?_
                  by_cases c4 : ((xs.getD i noEdge).f) = ((xs.getD k noEdge).t)
                  · refine WC.condY rfl (decide_eq_true c4) ?_
                    refine WC.seq ?_
                    refine WC.region ?_
                    refine W.any (.assign rfl) rfl rfl rfl ?_
                    refine W.nil ?_
                    refine E.thenN ?_
                    refine WC.ret ?_
                    refine E.blkR ?_
                    refine E.thenR ?_
                    refine E.thenR ?_
                    refine E.blkR ?_
                    refine E.blkR ?_
                    refine E.thenR ?_
                    refine E.thenR ?_
                    refine E.blkR ?_
                    refine E.thenR ?_
                    refine E.retG1 rfl rfl ?_
                    exact ⟨congrArg (fun b => Ending.returned (Value.bool b)) (decide_eq_false (fun hr => by have hr := hr.2 k (by omega); first | exact absurd hr.1 (by assumption) | exact hr.2.2 i (by omega) (by assumption) | (have := hr.2.1; omega))).symm, L4⟩
                  · refine WC.condN rfl (decide_eq_false c4) ?_
                    refine WC.skip ?_
                    refine E.blkN ?_
                    refine E.thenN ?_
                    refine WC.region ?_
                    refine W.any (.move rfl) rfl rfl rfl ?_
                    refine W.any (.add rfl rfl (by omega)) rfl rfl rfl ?_
                    refine W.any (.assign rfl) rfl rfl rfl ?_
                    refine W.nil ?_
                    refine E.again (i + 1) (.cons rfl (.cons rfl (.cons rfl (.nil _)))) ?_ ?_
                    · exact ⟨by omega, fun j hj => by rcases Nat.lt_or_ge j i with h | h; exact hy j h; rw [show j = i by omega]; exact c4, L4, by have := sz1; have := d11.size; omega⟩
                    · first | omega | (simp only []; omega)
                · refine WC.condN rfl (decide_eq_false c3) ?_
                  refine WC.exit ?_
                  refine E.thenX ?_
                  refine E.thenX ?_
                  refine E.blkH ?_
                  refine E.blkN ?_
                  refine E.thenN ?_
                  refine WC.region ?_
                  refine W.any (.move rfl) rfl rfl rfl ?_
                  refine W.any (.add rfl rfl (by omega)) rfl rfl rfl ?_
                  refine W.any (.assign rfl) rfl rfl rfl ?_
                  refine W.nil ?_
                  refine E.again (k + 1) (.cons rfl (.cons rfl (.nil _))) ?_ ?_
                  · exact ⟨by omega, fun j hj => by rcases Nat.lt_or_ge j k with h | h; exact hz j h; rw [show j = k by omega]; exact ⟨by assumption, fun h0 => by omega, fun q hq => hy q (by omega)⟩, Ll1, by have := sz0; have := sz1; have := d6.size; have := h6_4.size; omega⟩
                  · first | omega | (simp only []; omega)
          · refine G.any rfl rfl (.dec (.move rfl) (congrArg not ((Bool.eq_false_iff.2 q6_6)))) rfl rfl rfl ?_
            refine G.skip rfl rfl rfl rfl (rfl) rfl rfl ?_
            refine G.skip rfl rfl rfl rfl (rfl) rfl rfl ?_
            refine G.skip rfl rfl rfl rfl (rfl) rfl rfl ?_
            refine G.skipu rfl rfl rfl rfl rfl rfl ?_
            refine G.skipu rfl rfl rfl rfl rfl rfl ?_
            refine G.skipu rfl rfl rfl rfl rfl rfl ?_
            refine G.skipu rfl rfl rfl rfl rfl rfl ?_
            refine G.skipu rfl rfl rfl rfl rfl rfl ?_
            refine G.skipu rfl rfl rfl rfl rfl rfl ?_
            refine G.skipu rfl rfl rfl rfl rfl rfl ?_
            refine G.skipu rfl rfl rfl rfl rfl rfl ?_
            refine G.skipu rfl rfl rfl rfl rfl rfl ?_
            refine G.skipu rfl rfl rfl rfl rfl rfl ?_
            refine G.skipu rfl rfl rfl rfl rfl rfl ?_
            refine G.skipu rfl rfl rfl rfl rfl rfl ?_
            refine G.skip rfl rfl rfl rfl (rfl) rfl rfl ?_
            refine G.any rfl rfl (.pickT rfl rfl rfl) rfl rfl rfl ?_
            refine G.nil ?_
            refine E.thenN ?_
            refine WC.condT rfl ?_
            refine WC.seq ?_
            refine WC.region ?_
            refine W.any (.assign rfl) rfl rfl rfl ?_
            refine W.nil ?_
            refine E.thenN ?_
            refine WC.ret ?_
            refine E.thenR ?_
            refine E.blkR ?_
            refine E.thenR ?_
            refine E.thenR ?_
            refine E.blkR ?_
            refine E.thenR ?_
            refine E.retG1 rfl rfl ?_
            exact ⟨congrArg (fun b => Ending.returned (Value.bool b)) (decide_eq_false (fun hr => by have hr := hr.2 k (by omega); first | exact absurd hr.1 (by assumption) | exact hr.2.2 i (by omega) (by assumption) | (have := hr.2.1; omega))).symm, L2⟩
        · refine WC.condN rfl (decide_eq_false c1) ?_
          refine WC.exit ?_
          refine E.thenX ?_
          refine E.thenX ?_
          refine E.blkH ?_
          refine E.thenN ?_
          refine WC.seq ?_
          refine WC.region ?_
          refine W.any (.assign rfl) rfl rfl rfl ?_
          refine W.nil ?_
          refine E.thenN ?_
          refine WC.ret ?_
          refine E.retG1 rfl rfl ?_
          exact ⟨congrArg (fun b => Ending.returned (Value.bool b)) (decide_eq_true ⟨by omega, fun j hj => hz j (by omega)⟩).symm, Ll0⟩

set_option maxHeartbeats 1000000 in
theorem rcost_ok (a x : Int) {A : Option Addr} {n c : Nat} {xs : List Gsp.Edge} (w : World) (hV : Vec w edgeV 9 A n xs) (hn : n ≤ 1000000) : Calls Try.prog 34 #[.slice A n c, .int .i64 (a), .int .i64 (x)] w fun r w' => ∃ A1 c1 A2 c2, r = .returned (.tuple #[.slice A1 (costG xs a x).1.length c1, .slice A2 (costG xs a x).2.1.length c2, .int .i64 (costG xs a x).2.2]) ∧ OVec w' w.heap.size 3 iv 1 A1 (costG xs a x).1.length c1 (costG xs a x).1 ∧ OVec w' w.heap.size 3 iv 1 A2 (costG xs a x).2.1.length c2 (costG xs a x).2.1 ∧ Le w w' := by
  have hl := hV.1
  refine enter Try.func34 rfl rfl ?_
  have L0 := Le.refl w
  refine WC.seq ?_
  refine WC.region ?_
  refine W.any (.assign rfl) rfl rfl rfl ?_
  refine W.any (.assign rfl) rfl rfl rfl ?_
  refine W.any (.assign rfl) rfl rfl rfl ?_
  refine W.nil ?_
  refine E.thenN ?_
  refine WC.seq ?_
  refine WC.seq ?_
  refine WC.region ?_
  refine W.any (.move rfl) rfl rfl rfl ?_
  refine W.ef rfl rfl rfl ?_
  refine Ef.call go76 rfl rfl (r36way_ok w (hV.le L0) (by omega)) ?_
  rintro _ w1_1 ⟨rfl, h1_1⟩
  refine ⟨_, rfl, ?_⟩
  have L1 := L0.trans h1_1
  refine W.any (.not rfl) rfl rfl rfl ?_
  refine W.nil ?_
  refine E.thenN ?_
  by_cases c0 : wayG xs = true
  · refine WC.condN rfl (congrArg not (c0)) ?_
    refine WC.skip ?_
    refine E.thenN ?_
    refine WC.seq ?_
    refine WC.seq ?_
    refine WC.region ?_
    refine W.any (.move rfl) rfl rfl rfl ?_
    refine W.ef rfl rfl rfl ?_
    refine Ef.call go77 rfl rfl (r36in_ok a 1 1125899906842624 w1_1) ?_
    rintro _ w3_1 ⟨rfl, h3_1⟩
    refine ⟨_, rfl, ?_⟩
    have L2 := L1.trans h3_1
    refine W.any (.not rfl) rfl rfl rfl ?_
    by_cases q3_3 : inB a 1 1125899906842624 = true
    · refine W.any (.dec (.move rfl) (congrArg not (q3_3))) rfl rfl rfl ?_
      refine W.rdg (Any.rd (.move rfl) _) rfl rfl rfl (rfl) rfl rfl ?_
      refine W.efg rfl rfl rfl (rfl) rfl rfl ?_
      refine Ef.call go77 rfl rfl (r36in_ok x 1 1048576 w3_1) ?_
      rintro _ w3_5 ⟨rfl, h3_5⟩
      refine ⟨_, rfl, ?_⟩
      have L3 := L2.trans h3_5
      refine W.rdg (Any.rd (.not rfl) _) rfl rfl rfl (rfl) rfl rfl ?_
      refine W.any (.pickF rfl rfl rfl) rfl rfl rfl ?_
      refine W.nil ?_
      refine E.thenN ?_
      by_cases c1 : inB x 1 1048576 = true
      · refine WC.condN rfl (congrArg not (c1)) ?_
        have hwG : wayG xs = true := by assumption
        have hwl := wayG_len hwG
        have ha1 := inB_T (by assumption : inB a 1 1125899906842624 = true)
        have hx1 := inB_T (by assumption : inB x 1 1048576 = true)
        refine WC.skip ?_
        refine E.thenN ?_
        refine WC.seq ?_
        refine WC.region ?_
        refine W.any (.move rfl) rfl rfl rfl ?_
        refine W.rd (.len Try.underlying59 rfl) rfl rfl rfl ?_
        refine W.any (.assign rfl) rfl rfl rfl ?_
        refine W.nil ?_
        refine E.thenN ?_
        refine WC.seq ?_
        refine WC.region ?_
        refine W.any (.move rfl) rfl rfl rfl ?_
        refine W.ef rfl rfl rfl ?_
        refine Ef.vmake 0 n Try.underlying53 el3 iv_row rfl rfl (rfl) rfl (rfl) (by omega) (by unfold maxLen; omega) ?_
        intro g6_1 w6_1 hg6_1 o6_1 h6_1
        have L4 := L3.trans h6_1
        refine W.any (.assign rfl) rfl rfl rfl ?_
        refine W.nil ?_
        refine E.thenN ?_
        refine WC.seq ?_
        refine WC.region ?_
        refine W.any (.move rfl) rfl rfl rfl ?_
        refine W.ef rfl rfl rfl ?_
        refine Ef.vmake 0 n Try.underlying53 el3 iv_row rfl rfl (rfl) rfl (rfl) (by omega) (by unfold maxLen; omega) ?_
        intro g7_1 w7_1 hg7_1 o7_1 h7_1
        have L5 := L4.trans h7_1
        refine W.any (.assign rfl) rfl rfl rfl ?_
        refine W.nil ?_
        refine E.thenN ?_
        refine WC.seq ?_
        refine WC.seq ?_
        refine WC.region ?_
        refine W.any (.move rfl) rfl rfl rfl ?_
        refine W.any (.sub rfl rfl (by omega)) rfl rfl rfl ?_
        refine W.any (.assign rfl) rfl rfl rfl ?_
        refine W.nil ?_
        refine E.thenN ?_
        refine WC.block ?_
        have f6 := (o6_1.le h7_1)
        refine WC.loop (ι := Nat × (Option (Int × Int)) × (List (Int × Int))) (fun ⟨j, nx, l⟩ => [(0, .slice A n c), (1, .int .i64 (a)), (2, .int .i64 (x)), (9, .int .i64 (((n : Nat) : Int))), (10, .slice (some ⟨g6_1, 0, none⟩) n n), (11, .slice (some ⟨g7_1, 0, none⟩) n n), (12, .int .i64 (((j : Nat) : Int) - 1))]) (fun ⟨j, nx, l⟩ wl0 => (j ≤ n) ∧ (l.length = n - j) ∧ (costF a x (xs.drop j) = .ok (nx, l)) ∧ (j < n → 0 ≤ (l.getD 0 (0, 0)).2) ∧ Le w wl0 ∧ w7_1.heap.size ≤ wl0.heap.size ∧ OVec wl0 w3_5.heap.size 3 iv 1 (some ⟨g6_1, 0, none⟩) n n (List.replicate j 0 ++ l.map Prod.fst) ∧ OVec wl0 w6_1.heap.size 3 iv 1 (some ⟨g7_1, 0, none⟩) n n (List.replicate j 0 ++ l.map Prod.snd)) (fun ⟨j, nx, l⟩ => j) (n, some (a, x), []) ?_ ?_ ?_
        · exact .cons rfl (.cons rfl (.cons rfl (.cons rfl (.cons rfl (.cons rfl (.cons rfl (.nil _)))))))
        · exact ⟨Nat.le_refl _, by simp, by rw [List.drop_of_length_le (by omega)]; rfl, fun h => absurd h (Nat.lt_irrefl _), L5, Nat.le_refl _, (f6).cast rfl (by simp), (o7_1).cast rfl (by simp)⟩
        · rintro ⟨j, nx, l⟩ wl0 ⟨hj, hll, hF, h0l, Ll0, sz0, f0_0, f0_1⟩
          have lb0_2 : w3_5.heap.size ≤ wl0.heap.size := by have := h6_1.size; have := h7_1.size; omega
          have lb0_3 : w6_1.heap.size ≤ wl0.heap.size := by have := h7_1.size; omega
          refine WC.seq ?_
          refine WC.seq ?_
          refine WC.region ?_
          refine W.any (.move rfl) rfl rfl rfl ?_
          refine W.any (.geq rfl rfl) rfl rfl rfl ?_
          refine W.nil ?_
          refine E.thenN ?_
          by_cases c2 : 0 ≤ (((j : Nat) : Int) - 1)
          · refine WC.condY rfl (decide_eq_true c2) ?_
            refine WC.skip ?_
            refine E.thenN ?_
            refine WC.seq ?_
            refine WC.block ?_
            refine WC.seq ?_
            refine WC.region ?_
            refine W.any (.move rfl) rfl rfl rfl ?_
            refine W.any (.move rfl) rfl rfl rfl ?_
            refine W.any (.move rfl) rfl rfl rfl ?_
            refine W.any (.idxS ((j - 1)) Try.underlying53 sz3 rfl rfl (o6_1.vec.isSome iv_row (by omega)) (by omega) (by omega)) rfl rfl rfl ?_
            refine W.ef0 rfl rfl ?_
            refine Ef.vset (j := (j - 1)) (o := 0) a sz3 rfl (by omega) rfl f0_0 iv_row (getS (List.replicate j 0 ++ l.map Prod.fst) 0 (by simp; omega)) (by decide) rfl rfl ?_
            intro w11_4 o11_4 h11_4
            have L7 : Le w w11_4 := Ll0.then_ h11_4 (fun q hq => Nat.le_trans L3.size (f0_0.row hq).1)
            have o8 := o11_4.cast (m' := n) (ys := (List.replicate (j - 1) 0 ++ a :: l.map Prod.fst)) (rfl) (rep_set _ _ _ (by omega))
            refine W.nil ?_
            refine E.thenN ?_
            refine WC.seq ?_
            refine WC.region ?_
            refine W.any (.move rfl) rfl rfl rfl ?_
            refine W.any (.move rfl) rfl rfl rfl ?_
            refine W.any (.move rfl) rfl rfl rfl ?_
            refine W.any (.idxS ((j - 1)) Try.underlying53 sz3 rfl rfl (o7_1.vec.isSome iv_row (by omega)) (by omega) (by omega)) rfl rfl rfl ?_
            have f9 := (f0_1.ch h11_4 ((fun q h1 h2 => by have := (o6_1.row h1).2; have := (f0_1.row h2).1; omega)))
            refine W.ef0 rfl rfl ?_
            refine Ef.vset (j := (j - 1)) (o := 0) x sz3 rfl (by omega) rfl f9 iv_row (getS (List.replicate j 0 ++ l.map Prod.snd) 0 (by simp; omega)) (by decide) rfl rfl ?_
            intro w12_4 o12_4 h12_4
            have L10 : Le w w12_4 := L7.then_ h12_4 (fun q hq => Nat.le_trans L4.size (f9.row hq).1)
            have o11 := o12_4.cast (m' := n) (ys := (List.replicate (j - 1) 0 ++ x :: l.map Prod.snd)) (rfl) (rep_set _ _ _ (by omega))
            refine W.nil ?_
            refine E.thenN ?_
            refine WC.seq ?_
            refine WC.seq ?_
            refine WC.region ?_
            refine W.any (.move rfl) rfl rfl rfl ?_
            refine W.any (.move rfl) rfl rfl rfl ?_
            refine W.any (.sub rfl rfl (by omega)) rfl rfl rfl ?_
            refine W.any (.lss rfl rfl) rfl rfl rfl ?_
            refine W.nil ?_
            refine E.thenN ?_
            by_cases c3 : (((j : Nat) : Int) - 1) < (((n : Nat) : Int) - 1)
            · refine WC.condY rfl (decide_eq_true c3) ?_
              have hok := edgeOk_T (wayG_at hwG (i := j) (by omega)).1
              have hpk := polOk_T hok.2.2.2.2.2
              have hpI := polI_ok hok.2.2.2.2.2
              have hnx := costF_nx hF (by omega)
              have h0l2 := h0l (by omega)
              refine WC.seq ?_
              refine WC.draw [0, 1, 2, 3, 4, 5, 6, 7, 8, 9, 10, 11, 12, 13, 14, 15, 16] mixed (by kernel_rfl) ?_
              intro w14 d14
              have L12 := L10.trans d14
              refine G.any rfl rfl (.move rfl) rfl rfl rfl ?_
              refine G.any rfl rfl (.move rfl) rfl rfl rfl ?_
              refine G.any rfl rfl (.add rfl rfl (by omega)) rfl rfl rfl ?_
              refine G.any rfl rfl (.idxS (j) Try.underlying59 sz76 rfl rfl (hV.isSome edgeV_row (by omega)) (by omega) (by omega)) rfl rfl rfl ?_
              refine G.any rfl rfl (.vfield fa76_4 (hV.isSome edgeV_row (by omega)) rfl) rfl rfl rfl ?_
              refine G.rd rfl rfl (.vpart (j := j) (o := 4) (polV ((xs.getD j noEdge).pol)) ag74 rfl (by decide) rfl (hV.le L12) edgeV_row (getS xs noEdge (by first | omega | (simp only [List.length_cons, List.length_nil]; omega))) rfl) rfl rfl rfl ?_
              refine G.any rfl rfl (.move rfl) rfl rfl rfl ?_
              refine G.any rfl rfl (.move rfl) rfl rfl rfl ?_
              refine G.any rfl rfl (.add rfl rfl (by omega)) rfl rfl rfl ?_
              refine G.any rfl rfl (.idxS (j) Try.underlying53 sz3 rfl rfl (o6_1.vec.isSome iv_row (by omega)) (by omega) (by omega)) rfl rfl rfl ?_
              have f13 := ((o8.ch h12_4 ((Apart.symm (fun q h1 h2 => by have := (o6_1.row h1).2; have := (f9.row h2).1; omega)))).le d14)
              refine G.rd rfl rfl (.vone na3 rfl f13.vec iv_row (rep_at1 (f := Prod.fst) l _ (by omega) (by omega)) rfl) rfl rfl rfl ?_
              refine G.ef rfl rfl rfl rfl rfl ?_
              refine Ef.call go78 rfl rfl (r33fee_ok ((xs.getD j noEdge).pol) ((l.getD 0 (0, 0)).1) hpI w14) ?_
              rintro _ w14_11 ⟨rfl, h14_11⟩
              refine ⟨_, rfl, ?_⟩
              refine ⟨fun _ => h14_11, ?_⟩
              have L14 := L12.trans h14_11
              refine G.any rfl rfl (.move rfl) rfl rfl rfl ?_
              refine G.any rfl rfl (.extract rfl rfl) rfl rfl rfl ?_
              refine G.any rfl rfl (.extract rfl rfl) rfl rfl rfl ?_
              refine G.any rfl rfl (.assign rfl) rfl rfl rfl ?_
              refine G.any rfl rfl (.assign rfl) rfl rfl rfl ?_
              refine G.nil ?_
              refine E.thenN ?_
              refine WC.seq ?_
              refine WC.region ?_
              refine W.any (.move rfl) rfl rfl rfl ?_
              refine W.any (.move rfl) rfl rfl rfl ?_
              refine W.any (.add rfl rfl (by omega)) rfl rfl rfl ?_
              refine W.any (.idxS (j) Try.underlying53 sz3 rfl rfl (o6_1.vec.isSome iv_row (by omega)) (by omega) (by omega)) rfl rfl rfl ?_
              have f15 := (f13.le h14_11)
              refine W.rd (.vone na3 rfl f15.vec iv_row (rep_at1 (f := Prod.fst) l _ (by omega) (by omega)) rfl) rfl rfl rfl ?_
              refine W.any (.move rfl) rfl rfl rfl ?_
              refine W.ef rfl rfl rfl ?_
              refine Ef.call go79 rfl rfl (radd_ok ((l.getD 0 (0, 0)).1) ((feeG ((xs.getD j noEdge).pol) ((l.getD 0 (0, 0)).1)).1) w14_11) ?_
              rintro _ w15_6 ⟨rfl, h15_6⟩
              refine ⟨_, rfl, ?_⟩
              have L16 := L14.trans h15_6
              refine W.any (.move rfl) rfl rfl rfl ?_
              refine W.any (.extract rfl rfl) rfl rfl rfl ?_
              refine W.any (.extract rfl rfl) rfl rfl rfl ?_
              refine W.any (.assign rfl) rfl rfl rfl ?_
              refine W.any (.assign rfl) rfl rfl rfl ?_
              refine W.nil ?_
              refine E.thenN ?_
              refine WC.seq ?_
              refine WC.seq ?_
              refine WC.region ?_
              refine W.any (.move rfl) rfl rfl rfl ?_
              refine W.any (.not rfl) rfl rfl rfl ?_
              by_cases q16_2 : (feeG ((xs.getD j noEdge).pol) ((l.getD 0 (0, 0)).1)).2 = true
              · refine W.any (.dec (.move rfl) (congrArg not (q16_2))) rfl rfl rfl ?_
                refine W.rdg (Any.rd (.move rfl) _) rfl rfl rfl (rfl) rfl rfl ?_
                refine W.rdg (Any.rd (.not rfl) _) rfl rfl rfl (rfl) rfl rfl ?_
                refine W.any (.pickF rfl rfl rfl) rfl rfl rfl ?_
                refine W.nil ?_
                refine E.thenN ?_
                by_cases c4 : (addC ((l.getD 0 (0, 0)).1) ((feeG ((xs.getD j noEdge).pol) ((l.getD 0 (0, 0)).1)).1)).2 = true
                · refine WC.condN rfl (congrArg not (c4)) ?_
                  have hsome : nx = some ((addC (l.getD 0 (0, 0)).1 (feeG (xs.getD j noEdge).pol (l.getD 0 (0, 0)).1).1).1, ((l.getD 0 (0, 0)).2 + (xs.getD j noEdge).pol.d)) := by rw [hnx.1]; exact nextC_some (by assumption) (by assumption)
                  refine WC.skip ?_
                  refine E.thenN ?_
                  refine WC.seq ?_
                  refine WC.region ?_
                  refine W.any (.move rfl) rfl rfl rfl ?_
                  refine W.any (.move rfl) rfl rfl rfl ?_
                  refine W.any (.move rfl) rfl rfl rfl ?_
                  refine W.any (.idxS ((j - 1)) Try.underlying53 sz3 rfl rfl (o6_1.vec.isSome iv_row (by omega)) (by omega) (by omega)) rfl rfl rfl ?_
                  have f17 := (f15.le h15_6)
                  refine W.ef0 rfl rfl ?_
                  refine Ef.vset (j := (j - 1)) (o := 0) ((addC ((l.getD 0 (0, 0)).1) ((feeG ((xs.getD j noEdge).pol) ((l.getD 0 (0, 0)).1)).1)).1) sz3 rfl (by omega) rfl f17 iv_row (getS (List.replicate (j - 1) 0 ++ a :: l.map Prod.fst) 0 (by simp)) (by decide) rfl rfl ?_
                  intro w18_4 o18_4 h18_4
                  have L18 : Le w w18_4 := L16.then_ h18_4 (fun q hq => Nat.le_trans L3.size (f17.row hq).1)
                  have o19 := o18_4.cast (m' := n) (ys := (List.replicate (j - 1) 0 ++ (addC (l.getD 0 (0, 0)).1 (feeG (xs.getD j noEdge).pol (l.getD 0 (0, 0)).1).1).1 :: l.map Prod.fst)) (rfl) (rep_set2 _ _ _ _)
                  refine W.nil ?_
                  refine E.thenN ?_
                  refine WC.draw [0, 1, 2, 3, 4, 5, 6, 7, 8, 9, 10, 11, 12, 13, 14, 15, 16] mixed (by kernel_rfl) ?_
                  intro w19 d19
                  have L20 := L18.trans d19
                  refine G.any rfl rfl (.move rfl) rfl rfl rfl ?_
                  refine G.any rfl rfl (.move rfl) rfl rfl rfl ?_
                  refine G.any rfl rfl (.move rfl) rfl rfl rfl ?_
                  refine G.any rfl rfl (.move rfl) rfl rfl rfl ?_
                  refine G.any rfl rfl (.add rfl rfl (by omega)) rfl rfl rfl ?_
                  refine G.any rfl rfl (.idxS (j) Try.underlying53 sz3 rfl rfl (o7_1.vec.isSome iv_row (by omega)) (by omega) (by omega)) rfl rfl rfl ?_
                  have f21 := (((o11.le (d14.trans (h14_11.trans h15_6))).ch h18_4 ((fun q h1 h2 => by have := (o6_1.row h1).2; have := (o11.row h2).1; omega))).le d19)
                  refine G.rd rfl rfl (.vone na3 rfl f21.vec iv_row (rep_at1 (f := Prod.snd) l _ (by omega) (by omega)) rfl) rfl rfl rfl ?_
                  refine G.any rfl rfl (.move rfl) rfl rfl rfl ?_
                  refine G.any rfl rfl (.move rfl) rfl rfl rfl ?_
                  refine G.any rfl rfl (.add rfl rfl (by omega)) rfl rfl rfl ?_
                  refine G.any rfl rfl (.idxS (j) Try.underlying59 sz76 rfl rfl (hV.isSome edgeV_row (by omega)) (by omega) (by omega)) rfl rfl rfl ?_
                  refine G.any rfl rfl (.vfield fa76_4 (hV.isSome edgeV_row (by omega)) rfl) rfl rfl rfl ?_
                  refine G.any rfl rfl (.vfield fa74_2 (hV.isSome edgeV_row (by omega)) rfl) rfl rfl rfl ?_
                  refine G.rd rfl rfl (.vcell (j := j) (o := 6) na3 rfl (hV.le L20) edgeV_row (getS xs noEdge (by first | omega | (simp only [List.length_cons, List.length_nil]; omega))) rfl) rfl rfl rfl ?_
                  refine G.any rfl rfl (.add rfl rfl (by omega)) rfl rfl rfl ?_
                  refine G.any rfl rfl (.idxS ((j - 1)) Try.underlying53 sz3 rfl rfl (o7_1.vec.isSome iv_row (by omega)) (by omega) (by omega)) rfl rfl rfl ?_
                  refine G.ef0 rfl rfl rfl rfl ?_
                  refine Ef.vset (j := (j - 1)) (o := 0) (((l.getD 0 (0, 0)).2) + ((xs.getD j noEdge).pol.d)) sz3 rfl (by omega) rfl f21 iv_row (getS (List.replicate (j - 1) 0 ++ x :: l.map Prod.snd) 0 (by simp)) (by decide) rfl rfl ?_
                  intro w19_16 o19_16 h19_16
                  refine ⟨fun h => absurd h (ne_true_of_eq_false (by kernel_rfl)), ?_⟩
                  have L22 : Le w w19_16 := L20.then_ h19_16 (fun q hq => Nat.le_trans L4.size (f21.row hq).1)
                  have o23 := o19_16.cast (m' := n) (ys := (List.replicate (j - 1) 0 ++ ((l.getD 0 (0, 0)).2 + (xs.getD j noEdge).pol.d) :: l.map Prod.snd)) (rfl) (rep_set2 _ _ _ _)
                  refine G.nil ?_
                  refine E.thenN ?_
                  refine WC.seq ?_
                  refine WC.seq ?_
                  refine WC.draw [0, 1, 2, 3, 4, 5, 6, 7, 8, 9, 10, 11, 12, 13, 14, 15, 16, 17, 18, 19, 20, 21, 22, 23, 24, 25, 26, 27, 28, 29] mixed (by kernel_rfl) ?_
                  intro w20 d20
                  have L24 := L22.trans d20
                  refine G.any rfl rfl (.move rfl) rfl rfl rfl ?_
                  refine G.any rfl rfl (.move rfl) rfl rfl rfl ?_
                  refine G.any rfl rfl (.idxS ((j - 1)) Try.underlying53 sz3 rfl rfl (o6_1.vec.isSome iv_row (by omega)) (by omega) (by omega)) rfl rfl rfl ?_
                  have f25 := (((o19.le d19).ch h19_16 ((Apart.symm (fun q h1 h2 => by have := (o6_1.row h1).2; have := (f21.row h2).1; omega)))).le d20)
                  refine G.rd rfl rfl (.vone na3 rfl f25.vec iv_row (rep_at0 _ _ _ rfl) rfl) rfl rfl rfl ?_
                  refine G.any rfl rfl (.move rfl) rfl rfl rfl ?_
                  refine G.any rfl rfl (.move rfl) rfl rfl rfl ?_
                  refine G.any rfl rfl (.idxS ((j - 1)) Try.underlying59 sz76 rfl rfl (hV.isSome edgeV_row (by omega)) (by omega) (by omega)) rfl rfl rfl ?_
                  refine G.any rfl rfl (.vfield fa76_4 (hV.isSome edgeV_row (by omega)) rfl) rfl rfl rfl ?_
                  refine G.any rfl rfl (.vfield fa74_3 (hV.isSome edgeV_row (by omega)) rfl) rfl rfl rfl ?_
                  refine G.rd rfl rfl (.vcell (j := (j - 1)) (o := 7) na3 rfl (hV.le L24) edgeV_row (getS xs noEdge (by first | omega | (simp only [List.length_cons, List.length_nil]; omega))) rfl) rfl rfl rfl ?_
                  refine G.any rfl rfl (.move rfl) rfl rfl rfl ?_
                  refine G.any rfl rfl (.move rfl) rfl rfl rfl ?_
                  refine G.any rfl rfl (.idxS ((j - 1)) Try.underlying59 sz76 rfl rfl (hV.isSome edgeV_row (by omega)) (by omega) (by omega)) rfl rfl rfl ?_
                  refine G.any rfl rfl (.vfield fa76_4 (hV.isSome edgeV_row (by omega)) rfl) rfl rfl rfl ?_
                  refine G.any rfl rfl (.vfield fa74_4 (hV.isSome edgeV_row (by omega)) rfl) rfl rfl rfl ?_
                  refine G.rd rfl rfl (.vcell (j := (j - 1)) (o := 8) na3 rfl (hV.le L24) edgeV_row (getS xs noEdge (by first | omega | (simp only [List.length_cons, List.length_nil]; omega))) rfl) rfl rfl rfl ?_
                  refine G.ef rfl rfl rfl rfl rfl ?_
                  refine Ef.call go77 rfl rfl (r36in_ok ((addC (l.getD 0 (0, 0)).1 (feeG (xs.getD j noEdge).pol (l.getD 0 (0, 0)).1).1).1) ((xs.getD (j - 1) noEdge).pol.l) ((xs.getD (j - 1) noEdge).pol.m) w20) ?_
                  rintro _ w20_16 ⟨rfl, h20_16⟩
                  refine ⟨_, rfl, ?_⟩
                  refine ⟨fun _ => h20_16, ?_⟩
                  have L26 := L24.trans h20_16
                  refine G.any rfl rfl (.not rfl) rfl rfl rfl ?_
                  by_cases q20_18 : inB ((addC (l.getD 0 (0, 0)).1 (feeG (xs.getD j noEdge).pol (l.getD 0 (0, 0)).1).1).1) ((xs.getD (j - 1) noEdge).pol.l) ((xs.getD (j - 1) noEdge).pol.m) = true
                  · refine G.any rfl rfl (.dec (.move rfl) (congrArg not (q20_18))) rfl rfl rfl ?_
                    refine G.anyg rfl rfl (.move rfl) rfl rfl rfl (rfl) rfl rfl ?_
                    refine G.anyg rfl rfl (.move rfl) rfl rfl rfl (rfl) rfl rfl ?_
                    refine G.anyg rfl rfl (.idxS ((j - 1)) Try.underlying53 sz3 rfl rfl (o6_1.vec.isSome iv_row (by omega)) (by omega) (by omega)) rfl rfl rfl (rfl) rfl rfl ?_
                    have f27 := (f25.le h20_16)
                    refine G.rdg rfl rfl (.vone na3 rfl f27.vec iv_row (rep_at0 _ _ _ rfl) rfl) rfl rfl rfl (rfl) rfl rfl ?_
                    refine G.anyg rfl rfl (.move rfl) rfl rfl rfl (rfl) rfl rfl ?_
                    refine G.anyg rfl rfl (.move rfl) rfl rfl rfl (rfl) rfl rfl ?_
                    refine G.anyg rfl rfl (.idxS ((j - 1)) Try.underlying59 sz76 rfl rfl (hV.isSome edgeV_row (by omega)) (by omega) (by omega)) rfl rfl rfl (rfl) rfl rfl ?_
                    refine G.anyg rfl rfl (.vfield fa76_3 (hV.isSome edgeV_row (by omega)) rfl) rfl rfl rfl (rfl) rfl rfl ?_
                    refine G.rdg rfl rfl (.vcell (j := (j - 1)) (o := 3) na3 rfl (hV.le L26) edgeV_row (getS xs noEdge (by first | omega | (simp only [List.length_cons, List.length_nil]; omega))) rfl) rfl rfl rfl (rfl) rfl rfl ?_
                    refine G.anyg rfl rfl (.gtr rfl rfl) rfl rfl rfl (rfl) rfl rfl ?_
                    refine G.any rfl rfl (.pickF rfl rfl rfl) rfl rfl rfl ?_
                    refine G.nil ?_
                    refine E.thenN ?_
                    by_cases c5 : ((xs.getD (j - 1) noEdge).r) < ((addC (l.getD 0 (0, 0)).1 (feeG (xs.getD j noEdge).pol (l.getD 0 (0, 0)).1).1).1)
                    · refine WC.condY rfl (decide_eq_true c5) ?_
                      refine WC.seq ?_
                      refine WC.region ?_
                      refine W.any (.assign rfl) rfl rfl rfl ?_
                      refine W.any (.assign rfl) rfl rfl rfl ?_
                      refine W.any (.assign rfl) rfl rfl rfl ?_
                      refine W.nil ?_
                      refine E.thenN ?_
                      refine WC.ret ?_
                      refine E.thenR ?_
                      refine E.blkR ?_
                      refine E.thenR ?_
                      refine E.thenR ?_
                      refine E.blkR ?_
                      refine E.thenR ?_
                      refine E.retG3 rfl rfl rfl rfl ?_
                      have hc : costG xs a x = ([], [], 6) := costG_er (by assumption) (by assumption) (by assumption) (costF_six (by omega) (by omega) (hsome ▸ hF) (fun h => by have h2 := (inB_min _ _ _ _).1 h; first | exact absurd h2.1 (by assumption) | exact h2.2 (by assumption)))
                      exact ⟨none, 0, none, 0, by rw [hc]; rfl, by rw [hc]; exact OVec.nil _ _ _ _ _ _, by rw [hc]; exact OVec.nil _ _ _ _ _ _, L26⟩
                    · refine WC.condN rfl (decide_eq_false c5) ?_
                      refine WC.skip ?_
                      refine E.thenN ?_
                      refine WC.seq ?_
                      refine WC.region ?_
                      refine W.any (.move rfl) rfl rfl rfl ?_
                      refine W.any (.move rfl) rfl rfl rfl ?_
                      refine W.any (.idxS ((j - 1)) Try.underlying53 sz3 rfl rfl (o7_1.vec.isSome iv_row (by omega)) (by omega) (by omega)) rfl rfl rfl ?_
                      have f28 := (o23.le (d20.trans h20_16))
                      refine W.rd (.vone na3 rfl f28.vec iv_row (rep_at0 _ _ _ rfl) rfl) rfl rfl rfl ?_
                      refine W.any (.gtr rfl rfl) rfl rfl rfl ?_
                      refine W.nil ?_
                      refine E.thenN ?_
                      by_cases c6 : 1048576 < ((l.getD 0 (0, 0)).2 + (xs.getD j noEdge).pol.d)
                      · refine WC.condY rfl (decide_eq_true c6) ?_
                        refine WC.seq ?_
                        refine WC.region ?_
                        refine W.any (.assign rfl) rfl rfl rfl ?_
                        refine W.any (.assign rfl) rfl rfl rfl ?_
                        refine W.any (.assign rfl) rfl rfl rfl ?_
                        refine W.nil ?_
                        refine E.thenN ?_
                        refine WC.ret ?_
                        refine E.blkR ?_
                        refine E.thenR ?_
                        refine E.thenR ?_
                        refine E.blkR ?_
                        refine E.thenR ?_
                        refine E.retG3 rfl rfl rfl rfl ?_
                        have hc : costG xs a x = ([], [], 16) := costG_er (by assumption) (by assumption) (by assumption) (costF_late (by omega) (by omega) (hsome ▸ hF) ((inB_min _ _ _ _).2 ⟨by assumption, by assumption⟩) (by omega))
                        exact ⟨none, 0, none, 0, by rw [hc]; rfl, by rw [hc]; exact OVec.nil _ _ _ _ _ _, by rw [hc]; exact OVec.nil _ _ _ _ _ _, L26⟩
                      · refine WC.condN rfl (decide_eq_false c6) ?_
                        refine WC.skip ?_
                        refine E.blkN ?_
                        refine E.thenN ?_
                        refine WC.region ?_
                        refine W.any (.move rfl) rfl rfl rfl ?_
                        refine W.any (.sub rfl rfl (by omega)) rfl rfl rfl ?_
                        refine W.any (.assign rfl) rfl rfl rfl ?_
                        refine W.nil ?_
                        refine E.again (j - 1, nextC (xs.getD (j - 1) noEdge) (addC (l.getD 0 (0, 0)).1 (feeG (xs.getD j noEdge).pol (l.getD 0 (0, 0)).1).1).1 ((l.getD 0 (0, 0)).2 + (xs.getD j noEdge).pol.d), ((addC (l.getD 0 (0, 0)).1 (feeG (xs.getD j noEdge).pol (l.getD 0 (0, 0)).1).1).1, ((l.getD 0 (0, 0)).2 + (xs.getD j noEdge).pol.d)) :: l) (.cons rfl (.cons rfl (.cons rfl (.cons rfl (.cons rfl (.cons rfl (.cons' rfl (int_eq (by omega)) (.nil _)))))))) ?_ ?_
                        · exact ⟨by omega, by simp; omega, costF_step (by omega) (by omega) (hsome ▸ hF) ((inB_min _ _ _ _).2 ⟨by assumption, by assumption⟩) (by omega), fun _ => by show 0 ≤ ((l.getD 0 (0, 0)).2 + (xs.getD j noEdge).pol.d); omega, L26, by have := sz0; have := h11_4.size; have := h12_4.size; have := d14.size; have := h14_11.size; have := h15_6.size; have := h18_4.size; have := d19.size; have := h19_16.size; have := d20.size; have := h20_16.size; omega, f27, f28⟩
                        · show j - 1 < j; omega
                  · refine G.any rfl rfl (.dec (.move rfl) (congrArg not ((Bool.eq_false_iff.2 q20_18)))) rfl rfl rfl ?_
                    refine G.skip rfl rfl rfl rfl (rfl) rfl rfl ?_
                    refine G.skip rfl rfl rfl rfl (rfl) rfl rfl ?_
                    refine G.skip rfl rfl rfl rfl (rfl) rfl rfl ?_
                    refine G.skip rfl rfl rfl rfl (rfl) rfl rfl ?_
                    refine G.skip rfl rfl rfl rfl (rfl) rfl rfl ?_
                    refine G.skip rfl rfl rfl rfl (rfl) rfl rfl ?_
                    refine G.skip rfl rfl rfl rfl (rfl) rfl rfl ?_
                    refine G.skip rfl rfl rfl rfl (rfl) rfl rfl ?_
                    refine G.skip rfl rfl rfl rfl (rfl) rfl rfl ?_
                    refine G.skip rfl rfl rfl rfl (rfl) rfl rfl ?_
                    refine G.any rfl rfl (.pickT rfl rfl rfl) rfl rfl rfl ?_
                    refine G.nil ?_
                    refine E.thenN ?_
                    refine WC.condT rfl ?_
                    refine WC.seq ?_
                    refine WC.region ?_
                    refine W.any (.assign rfl) rfl rfl rfl ?_
                    refine W.any (.assign rfl) rfl rfl rfl ?_
                    refine W.any (.assign rfl) rfl rfl rfl ?_
                    refine W.nil ?_
                    refine E.thenN ?_
                    refine WC.ret ?_
                    refine E.thenR ?_
                    refine E.blkR ?_
                    refine E.thenR ?_
                    refine E.thenR ?_
                    refine E.blkR ?_
                    refine E.thenR ?_
                    refine E.retG3 rfl rfl rfl rfl ?_
                    have hc : costG xs a x = ([], [], 6) := costG_er (by assumption) (by assumption) (by assumption) (costF_six (by omega) (by omega) (hsome ▸ hF) (fun h => by have h2 := (inB_min _ _ _ _).1 h; first | exact absurd h2.1 (by assumption) | exact h2.2 (by assumption)))
                    exact ⟨none, 0, none, 0, by rw [hc]; rfl, by rw [hc]; exact OVec.nil _ _ _ _ _ _, by rw [hc]; exact OVec.nil _ _ _ _ _ _, L26⟩
                · refine WC.condY rfl (congrArg not ((Bool.eq_false_iff.2 c4))) ?_
                  refine WC.seq ?_
                  refine WC.region ?_
                  refine W.any (.assign rfl) rfl rfl rfl ?_
                  refine W.any (.assign rfl) rfl rfl rfl ?_
                  refine W.any (.assign rfl) rfl rfl rfl ?_
                  refine W.nil ?_
                  refine E.thenN ?_
                  refine WC.ret ?_
                  refine E.thenR ?_
                  refine E.thenR ?_
                  refine E.blkR ?_
                  refine E.thenR ?_
                  refine E.thenR ?_
                  refine E.blkR ?_
                  refine E.thenR ?_
                  refine E.retG3 rfl rfl rfl rfl ?_
                  have hc : costG xs a x = ([], [], 6) := costG_er (by assumption) (by assumption) (by assumption) (costF_none (j := j) (by omega) (by omega) (by rw [hF, hnx.1, nextC_none (by first | exact .inl (by assumption) | exact .inr (by assumption))]))
                  exact ⟨none, 0, none, 0, by rw [hc]; rfl, by rw [hc]; exact OVec.nil _ _ _ _ _ _, by rw [hc]; exact OVec.nil _ _ _ _ _ _, L16⟩
              · refine W.any (.dec (.move rfl) (congrArg not ((Bool.eq_false_iff.2 q16_2)))) rfl rfl rfl ?_
                refine W.skip rfl rfl rfl (rfl) rfl rfl ?_
                refine W.skip rfl rfl rfl (rfl) rfl rfl ?_
                refine W.any (.pickT rfl rfl rfl) rfl rfl rfl ?_
                refine W.nil ?_
                refine E.thenN ?_
                refine WC.condT rfl ?_
                refine WC.seq ?_
                refine WC.region ?_
                refine W.any (.assign rfl) rfl rfl rfl ?_
                refine W.any (.assign rfl) rfl rfl rfl ?_
                refine W.any (.assign rfl) rfl rfl rfl ?_
                refine W.nil ?_
                refine E.thenN ?_
                refine WC.ret ?_
                refine E.thenR ?_
                refine E.thenR ?_
                refine E.blkR ?_
                refine E.thenR ?_
                refine E.thenR ?_
                refine E.blkR ?_
                refine E.thenR ?_
                refine E.retG3 rfl rfl rfl rfl ?_
                have hc : costG xs a x = ([], [], 6) := costG_er (by assumption) (by assumption) (by assumption) (costF_none (j := j) (by omega) (by omega) (by rw [hF, hnx.1, nextC_none (by first | exact .inl (by assumption) | exact .inr (by assumption))]))
                exact ⟨none, 0, none, 0, by rw [hc]; rfl, by rw [hc]; exact OVec.nil _ _ _ _ _ _, by rw [hc]; exact OVec.nil _ _ _ _ _ _, L16⟩
            · refine WC.condN rfl (decide_eq_false c3) ?_
              have hl0 : l = [] := List.eq_nil_of_length_eq_zero (by omega)
              have hsome : nx = some (a, x) := by rw [show j = n by omega, List.drop_of_length_le (by omega)] at hF; simp [costF] at hF; exact hF.1.symm
              refine WC.skip ?_
              refine E.thenN ?_
              refine WC.seq ?_
              refine WC.seq ?_
              refine WC.draw [0, 1, 2, 3, 4, 5, 6, 7, 8, 9, 10, 11, 12, 13, 14, 15, 16, 17, 18, 19, 20, 21, 22, 23, 24, 25, 26, 27, 28, 29] mixed (by kernel_rfl) ?_
              intro w20 d20
              have L29 := L10.trans d20
              refine G.any rfl rfl (.move rfl) rfl rfl rfl ?_
              refine G.any rfl rfl (.move rfl) rfl rfl rfl ?_
              refine G.any rfl rfl (.idxS ((j - 1)) Try.underlying53 sz3 rfl rfl (o6_1.vec.isSome iv_row (by omega)) (by omega) (by omega)) rfl rfl rfl ?_
              have f30 := ((o8.ch h12_4 ((Apart.symm (fun q h1 h2 => by have := (o6_1.row h1).2; have := (f9.row h2).1; omega)))).le d20)
              refine G.rd rfl rfl (.vone na3 rfl f30.vec iv_row (rep_at0 _ _ _ rfl) rfl) rfl rfl rfl ?_
              refine G.any rfl rfl (.move rfl) rfl rfl rfl ?_
              refine G.any rfl rfl (.move rfl) rfl rfl rfl ?_
              refine G.any rfl rfl (.idxS ((j - 1)) Try.underlying59 sz76 rfl rfl (hV.isSome edgeV_row (by omega)) (by omega) (by omega)) rfl rfl rfl ?_
              refine G.any rfl rfl (.vfield fa76_4 (hV.isSome edgeV_row (by omega)) rfl) rfl rfl rfl ?_
              refine G.any rfl rfl (.vfield fa74_3 (hV.isSome edgeV_row (by omega)) rfl) rfl rfl rfl ?_
              refine G.rd rfl rfl (.vcell (j := (j - 1)) (o := 7) na3 rfl (hV.le L29) edgeV_row (getS xs noEdge (by first | omega | (simp only [List.length_cons, List.length_nil]; omega))) rfl) rfl rfl rfl ?_
              refine G.any rfl rfl (.move rfl) rfl rfl rfl ?_
              refine G.any rfl rfl (.move rfl) rfl rfl rfl ?_
              refine G.any rfl rfl (.idxS ((j - 1)) Try.underlying59 sz76 rfl rfl (hV.isSome edgeV_row (by omega)) (by omega) (by omega)) rfl rfl rfl ?_
              refine G.any rfl rfl (.vfield fa76_4 (hV.isSome edgeV_row (by omega)) rfl) rfl rfl rfl ?_
              refine G.any rfl rfl (.vfield fa74_4 (hV.isSome edgeV_row (by omega)) rfl) rfl rfl rfl ?_
              refine G.rd rfl rfl (.vcell (j := (j - 1)) (o := 8) na3 rfl (hV.le L29) edgeV_row (getS xs noEdge (by first | omega | (simp only [List.length_cons, List.length_nil]; omega))) rfl) rfl rfl rfl ?_
              refine G.ef rfl rfl rfl rfl rfl ?_
              refine Ef.call go77 rfl rfl (r36in_ok a ((xs.getD (j - 1) noEdge).pol.l) ((xs.getD (j - 1) noEdge).pol.m) w20) ?_
              rintro _ w20_16_1 ⟨rfl, h20_16_1⟩
              refine ⟨_, rfl, ?_⟩
              refine ⟨fun _ => h20_16_1, ?_⟩
              have L31 := L29.trans h20_16_1
              refine G.any rfl rfl (.not rfl) rfl rfl rfl ?_
              by_cases q20_18 : inB a ((xs.getD (j - 1) noEdge).pol.l) ((xs.getD (j - 1) noEdge).pol.m) = true
              · refine G.any rfl rfl (.dec (.move rfl) (congrArg not (q20_18))) rfl rfl rfl ?_
                refine G.anyg rfl rfl (.move rfl) rfl rfl rfl (rfl) rfl rfl ?_
                refine G.anyg rfl rfl (.move rfl) rfl rfl rfl (rfl) rfl rfl ?_
                refine G.anyg rfl rfl (.idxS ((j - 1)) Try.underlying53 sz3 rfl rfl (o6_1.vec.isSome iv_row (by omega)) (by omega) (by omega)) rfl rfl rfl (rfl) rfl rfl ?_
                have f32 := (f30.le h20_16_1)
                refine G.rdg rfl rfl (.vone na3 rfl f32.vec iv_row (rep_at0 _ _ _ rfl) rfl) rfl rfl rfl (rfl) rfl rfl ?_
                refine G.anyg rfl rfl (.move rfl) rfl rfl rfl (rfl) rfl rfl ?_
                refine G.anyg rfl rfl (.move rfl) rfl rfl rfl (rfl) rfl rfl ?_
                refine G.anyg rfl rfl (.idxS ((j - 1)) Try.underlying59 sz76 rfl rfl (hV.isSome edgeV_row (by omega)) (by omega) (by omega)) rfl rfl rfl (rfl) rfl rfl ?_
                refine G.anyg rfl rfl (.vfield fa76_3 (hV.isSome edgeV_row (by omega)) rfl) rfl rfl rfl (rfl) rfl rfl ?_
                refine G.rdg rfl rfl (.vcell (j := (j - 1)) (o := 3) na3 rfl (hV.le L31) edgeV_row (getS xs noEdge (by first | omega | (simp only [List.length_cons, List.length_nil]; omega))) rfl) rfl rfl rfl (rfl) rfl rfl ?_
                refine G.anyg rfl rfl (.gtr rfl rfl) rfl rfl rfl (rfl) rfl rfl ?_
                refine G.any rfl rfl (.pickF rfl rfl rfl) rfl rfl rfl ?_
                refine G.nil ?_
                refine E.thenN ?_
                by_cases c5 : ((xs.getD (j - 1) noEdge).r) < a
                · refine WC.condY rfl (decide_eq_true c5) ?_
                  refine WC.seq ?_
                  refine WC.region ?_
                  refine W.any (.assign rfl) rfl rfl rfl ?_
                  refine W.any (.assign rfl) rfl rfl rfl ?_
                  refine W.any (.assign rfl) rfl rfl rfl ?_
                  refine W.nil ?_
                  refine E.thenN ?_
                  refine WC.ret ?_
                  refine E.thenR ?_
                  refine E.blkR ?_
                  refine E.thenR ?_
                  refine E.thenR ?_
                  refine E.blkR ?_
                  refine E.thenR ?_
                  refine E.retG3 rfl rfl rfl rfl ?_
                  have hc : costG xs a x = ([], [], 6) := costG_er (by assumption) (by assumption) (by assumption) (costF_six (by omega) (by omega) (hsome ▸ hF) (fun h => by have h2 := (inB_min _ _ _ _).1 h; first | exact absurd h2.1 (by assumption) | exact h2.2 (by assumption)))
                  exact ⟨none, 0, none, 0, by rw [hc]; rfl, by rw [hc]; exact OVec.nil _ _ _ _ _ _, by rw [hc]; exact OVec.nil _ _ _ _ _ _, L31⟩
                · refine WC.condN rfl (decide_eq_false c5) ?_
                  refine WC.skip ?_
                  refine E.thenN ?_
                  refine WC.seq ?_
                  refine WC.region ?_
                  refine W.any (.move rfl) rfl rfl rfl ?_
                  refine W.any (.move rfl) rfl rfl rfl ?_
                  refine W.any (.idxS ((j - 1)) Try.underlying53 sz3 rfl rfl (o7_1.vec.isSome iv_row (by omega)) (by omega) (by omega)) rfl rfl rfl ?_
                  have f33 := (o11.le (d20.trans h20_16_1))
                  refine W.rd (.vone na3 rfl f33.vec iv_row (rep_at0 _ _ _ rfl) rfl) rfl rfl rfl ?_
                  refine W.any (.gtr rfl rfl) rfl rfl rfl ?_
                  refine W.nil ?_
                  refine E.thenN ?_
                  by_cases c6 : 1048576 < x
                  · refine WC.condY rfl (decide_eq_true c6) ?_
                    refine WC.seq ?_
                    refine WC.region ?_
                    refine W.any (.assign rfl) rfl rfl rfl ?_
                    refine W.any (.assign rfl) rfl rfl rfl ?_
                    refine W.any (.assign rfl) rfl rfl rfl ?_
                    refine W.nil ?_
                    refine E.thenN ?_
                    refine WC.ret ?_
                    refine E.blkR ?_
                    refine E.thenR ?_
                    refine E.thenR ?_
                    refine E.blkR ?_
                    refine E.thenR ?_
                    refine E.retG3 rfl rfl rfl rfl ?_
                    have hc : costG xs a x = ([], [], 16) := costG_er (by assumption) (by assumption) (by assumption) (costF_late (by omega) (by omega) (hsome ▸ hF) ((inB_min _ _ _ _).2 ⟨by assumption, by assumption⟩) (by omega))
                    exact ⟨none, 0, none, 0, by rw [hc]; rfl, by rw [hc]; exact OVec.nil _ _ _ _ _ _, by rw [hc]; exact OVec.nil _ _ _ _ _ _, L31⟩
                  · refine WC.condN rfl (decide_eq_false c6) ?_
                    refine WC.skip ?_
                    refine E.blkN ?_
                    refine E.thenN ?_
                    refine WC.region ?_
                    refine W.any (.move rfl) rfl rfl rfl ?_
                    refine W.any (.sub rfl rfl (by omega)) rfl rfl rfl ?_
                    refine W.any (.assign rfl) rfl rfl rfl ?_
                    refine W.nil ?_
                    refine E.again (j - 1, nextC (xs.getD (j - 1) noEdge) a x, (a, x) :: l) (.cons rfl (.cons rfl (.cons rfl (.cons rfl (.cons rfl (.cons rfl (.cons' rfl (int_eq (by omega)) (.nil _)))))))) ?_ ?_
                    · exact ⟨by omega, by simp; omega, costF_step (by omega) (by omega) (hsome ▸ hF) ((inB_min _ _ _ _).2 ⟨by assumption, by assumption⟩) (by omega), fun _ => by show 0 ≤ x; omega, L31, by have := sz0; have := h11_4.size; have := h12_4.size; have := d20.size; have := h20_16_1.size; omega, f32, f33⟩
                    · show j - 1 < j; omega
              · refine G.any rfl rfl (.dec (.move rfl) (congrArg not ((Bool.eq_false_iff.2 q20_18)))) rfl rfl rfl ?_
                refine G.skip rfl rfl rfl rfl (rfl) rfl rfl ?_
                refine G.skip rfl rfl rfl rfl (rfl) rfl rfl ?_
                refine G.skip rfl rfl rfl rfl (rfl) rfl rfl ?_
                refine G.skip rfl rfl rfl rfl (rfl) rfl rfl ?_
                refine G.skip rfl rfl rfl rfl (rfl) rfl rfl ?_
                refine G.skip rfl rfl rfl rfl (rfl) rfl rfl ?_
                refine G.skip rfl rfl rfl rfl (rfl) rfl rfl ?_
                refine G.skip rfl rfl rfl rfl (rfl) rfl rfl ?_
                refine G.skip rfl rfl rfl rfl (rfl) rfl rfl ?_
                refine G.skip rfl rfl rfl rfl (rfl) rfl rfl ?_
                refine G.any rfl rfl (.pickT rfl rfl rfl) rfl rfl rfl ?_
                refine G.nil ?_
                refine E.thenN ?_
                refine WC.condT rfl ?_
                refine WC.seq ?_
                refine WC.region ?_
                refine W.any (.assign rfl) rfl rfl rfl ?_
                refine W.any (.assign rfl) rfl rfl rfl ?_
                refine W.any (.assign rfl) rfl rfl rfl ?_
                refine W.nil ?_
                refine E.thenN ?_
                refine WC.ret ?_
                refine E.thenR ?_
                refine E.blkR ?_
                refine E.thenR ?_
                refine E.thenR ?_
                refine E.blkR ?_
                refine E.thenR ?_
                refine E.retG3 rfl rfl rfl rfl ?_
                have hc : costG xs a x = ([], [], 6) := costG_er (by assumption) (by assumption) (by assumption) (costF_six (by omega) (by omega) (hsome ▸ hF) (fun h => by have h2 := (inB_min _ _ _ _).1 h; first | exact absurd h2.1 (by assumption) | exact h2.2 (by assumption)))
                exact ⟨none, 0, none, 0, by rw [hc]; rfl, by rw [hc]; exact OVec.nil _ _ _ _ _ _, by rw [hc]; exact OVec.nil _ _ _ _ _ _, L31⟩
          · refine WC.condN rfl (decide_eq_false c2) ?_
            refine WC.exit ?_
            refine E.thenX ?_
            refine E.thenX ?_
            refine E.blkH ?_
            refine E.thenN ?_
            refine WC.seq ?_
            refine WC.region ?_
            refine W.any (.move rfl) rfl rfl rfl ?_
            refine W.any (.move rfl) rfl rfl rfl ?_
            refine W.any (.assign rfl) rfl rfl rfl ?_
            refine W.any (.assign rfl) rfl rfl rfl ?_
            refine W.any (.assign rfl) rfl rfl rfl ?_
            refine W.nil ?_
            refine E.thenN ?_
            refine WC.ret ?_
            refine E.retG3 rfl rfl rfl rfl ?_
            have hc := costG_ok (by assumption) (by assumption) (by assumption) (show costF a x xs = .ok (nx, l) by rw [show j = 0 by omega] at hF; exact hF)
            have hj0 : j = 0 := by omega
            subst hj0
            exact ⟨some ⟨g6_1, 0, none⟩, n, some ⟨g7_1, 0, none⟩, n, by rw [hc]; simp [show l.length = n by omega], by rw [hc]; exact ((f0_0.mono L3.size)).cast (by simp; omega) (by simp), by rw [hc]; exact ((f0_1.mono L4.size)).cast (by simp; omega) (by simp), Ll0⟩
      · refine WC.condY rfl (congrArg not ((Bool.eq_false_iff.2 c1))) ?_
        refine WC.seq ?_
        refine WC.region ?_
        refine W.any (.assign rfl) rfl rfl rfl ?_
        refine W.any (.assign rfl) rfl rfl rfl ?_
        refine W.any (.assign rfl) rfl rfl rfl ?_
        refine W.nil ?_
        refine E.thenN ?_
        refine WC.ret ?_
        refine E.thenR ?_
        refine E.retG3 rfl rfl rfl rfl ?_
        have hc : costG xs a x = ([], [], 1) := costG_arg (by assumption) (by first | exact .inl (by assumption) | exact .inr (by assumption))
        exact ⟨none, 0, none, 0, by rw [hc]; rfl, by rw [hc]; exact OVec.nil _ _ _ _ _ _, by rw [hc]; exact OVec.nil _ _ _ _ _ _, L3⟩
    · refine W.any (.dec (.move rfl) (congrArg not ((Bool.eq_false_iff.2 q3_3)))) rfl rfl rfl ?_
      refine W.skip rfl rfl rfl (rfl) rfl rfl ?_
      refine W.skip rfl rfl rfl (rfl) rfl rfl ?_
      refine W.skip rfl rfl rfl (rfl) rfl rfl ?_
      refine W.any (.pickT rfl rfl rfl) rfl rfl rfl ?_
      refine W.nil ?_
      refine E.thenN ?_
      refine WC.condT rfl ?_
      refine WC.seq ?_
      refine WC.region ?_
      refine W.any (.assign rfl) rfl rfl rfl ?_
      refine W.any (.assign rfl) rfl rfl rfl ?_
      refine W.any (.assign rfl) rfl rfl rfl ?_
      refine W.nil ?_
      refine E.thenN ?_
      refine WC.ret ?_
      refine E.thenR ?_
      refine E.retG3 rfl rfl rfl rfl ?_
      have hc : costG xs a x = ([], [], 1) := costG_arg (by assumption) (by first | exact .inl (by assumption) | exact .inr (by assumption))
      exact ⟨none, 0, none, 0, by rw [hc]; rfl, by rw [hc]; exact OVec.nil _ _ _ _ _ _, by rw [hc]; exact OVec.nil _ _ _ _ _ _, L2⟩
  · refine WC.condY rfl (congrArg not ((Bool.eq_false_iff.2 c0))) ?_
    refine WC.seq ?_
    refine WC.region ?_
    refine W.any (.assign rfl) rfl rfl rfl ?_
    refine W.any (.assign rfl) rfl rfl rfl ?_
    refine W.any (.assign rfl) rfl rfl rfl ?_
    refine W.nil ?_
    refine E.thenN ?_
    refine WC.ret ?_
    refine E.thenR ?_
    refine E.retG3 rfl rfl rfl rfl ?_
    have hc : costG xs a x = ([], [], 19) := costG_way (by assumption)
    exact ⟨none, 0, none, 0, by rw [hc]; rfl, by rw [hc]; exact OVec.nil _ _ _ _ _ _, by rw [hc]; exact OVec.nil _ _ _ _ _ _, L1⟩

set_option maxHeartbeats 4000000 in
theorem rhops_ok (a x : Int) {A Ap Ab : Option Addr} {n c np cp nb cb : Nat} {xs : List Gsp.Edge} {pts bl : List Nat} (w : World) (hV : Vec w edgeV 9 A n xs) (hn : n ≤ 1000000) (hP : Vec w pv1 1 Ap np pts) (hnp : np ≤ 1000000) (hB : Vec w pv1 1 Ab nb bl) (hnb : nb ≤ 1000000) : Calls Try.prog 36 #[.slice A n c, .int .i64 (a), .int .i64 (x), .slice Ap np cp, .slice Ab nb cb] w fun r w' => ∃ A' c', r = .returned (.tuple #[.slice A' (hopsG xs a x pts bl).1.length c', .int .i64 (hopsG xs a x pts bl).2]) ∧ OVec w' w.heap.size 95 hopV 6 A' (hopsG xs a x pts bl).1.length c' (hopsG xs a x pts bl).1 ∧ Le w w' := by
  have hl := hV.1
  have hlp := hP.1
  have hlb := hB.1
  refine enter Try.func36 rfl rfl ?_
  have L0 := Le.refl w
  refine WC.seq ?_
  refine WC.region ?_
  refine W.any (.assign rfl) rfl rfl rfl ?_
  refine W.any (.assign rfl) rfl rfl rfl ?_
  refine W.nil ?_
  refine E.thenN ?_
  refine WC.seq ?_
  refine WC.region ?_
  refine W.any (.move rfl) rfl rfl rfl ?_
  refine W.any (.move rfl) rfl rfl rfl ?_
  refine W.any (.move rfl) rfl rfl rfl ?_
  refine W.ef rfl rfl rfl ?_
  refine Ef.call go34 rfl rfl (rcost_ok a x w (hV.le L0) (by omega)) ?_
  rintro _ w1_3 ⟨Aa1_3, ca1_3, Ab1_3, cb1_3, rfl, oa1_3, ob1_3, h1_3⟩
  refine ⟨_, rfl, ?_⟩
  have L1 := L0.trans h1_3
  have hcl0 := @costG_lens xs a x
  have hwl0 : (costG xs a x).2.2 = 0 → wayG xs = true := fun h => (costG_inv h).1
  have hg0 : hopsG xs a x pts bl = if (costG xs a x).2.2 ≠ 0 then ([], (costG xs a x).2.2) else if pts.length ≠ xs.length ∨ bl.length ≠ xs.length - 1 then ([], 1) else (hopsL xs (costG xs a x).1 (costG xs a x).2.1 pts bl a x, 0) := rfl
  generalize costG xs a x = C at *
  refine W.any (.move rfl) rfl rfl rfl ?_
  refine W.any (.extract rfl rfl) rfl rfl rfl ?_
  refine W.any (.extract rfl rfl) rfl rfl rfl ?_
  refine W.any (.extract rfl rfl) rfl rfl rfl ?_
  refine W.any (.assign rfl) rfl rfl rfl ?_
  refine W.any (.assign rfl) rfl rfl rfl ?_
  refine W.any (.assign rfl) rfl rfl rfl ?_
  refine W.nil ?_
  refine E.thenN ?_
  refine WC.seq ?_
  refine WC.seq ?_
  refine WC.region ?_
  refine W.any (.move rfl) rfl rfl rfl ?_
  refine W.any (.neq rfl rfl) rfl rfl rfl ?_
  refine W.nil ?_
  refine E.thenN ?_
  by_cases c0 : C.2.2 ≠ 0
  · refine WC.condY rfl (decide_eq_true c0) ?_
    refine WC.seq ?_
    refine WC.region ?_
    refine W.any (.move rfl) rfl rfl rfl ?_
    refine W.any (.assign rfl) rfl rfl rfl ?_
    refine W.any (.assign rfl) rfl rfl rfl ?_
    refine W.nil ?_
    refine E.thenN ?_
    refine WC.ret ?_
    refine E.thenR ?_
    refine E.retG2 rfl rfl rfl ?_
    have hg : hopsG xs a x pts bl = ([], C.2.2) := by rw [hg0, if_pos (by omega)]
    exact ⟨none, 0, by rw [hg]; rfl, by rw [hg]; exact OVec.nil _ _ _ _ _ _, L1⟩
  · refine WC.condN rfl (decide_eq_false c0) ?_
    have hcl := hcl0 (Decidable.not_not.1 (by assumption))
    have hwl := wayG_len (hwl0 (Decidable.not_not.1 (by assumption)))
    refine WC.skip ?_
    refine E.thenN ?_
    refine WC.seq ?_
    refine WC.region ?_
    refine W.any (.move rfl) rfl rfl rfl ?_
    refine W.rd (.len Try.underlying59 rfl) rfl rfl rfl ?_
    refine W.any (.assign rfl) rfl rfl rfl ?_
    refine W.nil ?_
    refine E.thenN ?_
    refine WC.seq ?_
    refine WC.seq ?_
    refine WC.region ?_
    refine W.any (.move rfl) rfl rfl rfl ?_
    refine W.rd (.len Try.underlying60 rfl) rfl rfl rfl ?_
    refine W.any (.move rfl) rfl rfl rfl ?_
    refine W.any (.neq rfl rfl) rfl rfl rfl ?_
    by_cases q5_4 : ((np : Nat) : Int) ≠ ((n : Nat) : Int)
    · refine W.any (.dec (.move rfl) (decide_eq_true q5_4)) rfl rfl rfl ?_
      refine W.skip rfl rfl rfl (rfl) rfl rfl ?_
      refine W.skip rfl rfl rfl (rfl) rfl rfl ?_
      refine W.skip rfl rfl rfl (rfl) rfl rfl ?_
      refine W.skip rfl rfl rfl (rfl) rfl rfl ?_
      refine W.skip rfl rfl rfl (rfl) rfl rfl ?_
      refine W.any (.pickT rfl rfl rfl) rfl rfl rfl ?_
      refine W.nil ?_
      refine E.thenN ?_
      refine WC.condT rfl ?_
      refine WC.seq ?_
      refine WC.region ?_
      refine W.any (.assign rfl) rfl rfl rfl ?_
      refine W.any (.assign rfl) rfl rfl rfl ?_
      refine W.nil ?_
      refine E.thenN ?_
      refine WC.ret ?_
      refine E.thenR ?_
      refine E.retG2 rfl rfl rfl ?_
      have hg : hopsG xs a x pts bl = ([], 1) := by rw [hg0, if_neg (by omega), if_pos (by omega)]
      exact ⟨none, 0, by rw [hg]; rfl, by rw [hg]; exact OVec.nil _ _ _ _ _ _, L1⟩
    · refine W.any (.dec (.move rfl) (decide_eq_false q5_4)) rfl rfl rfl ?_
      refine W.rdg (Any.rd (.move rfl) _) rfl rfl rfl (rfl) rfl rfl ?_
      refine W.rdg (.len Try.underlying61 rfl) rfl rfl rfl (rfl) rfl rfl ?_
      refine W.rdg (Any.rd (.move rfl) _) rfl rfl rfl (rfl) rfl rfl ?_
      refine W.rdg (Any.rd (.sub rfl rfl (by omega)) _) rfl rfl rfl (rfl) rfl rfl ?_
      refine W.rdg (Any.rd (.neq rfl rfl) _) rfl rfl rfl (rfl) rfl rfl ?_
      refine W.any (.pickF rfl rfl rfl) rfl rfl rfl ?_
      refine W.nil ?_
      refine E.thenN ?_
      by_cases c1 : ((nb : Nat) : Int) ≠ (((n : Nat) : Int) - 1)
      · refine WC.condY rfl (decide_eq_true c1) ?_
        refine WC.seq ?_
        refine WC.region ?_
        refine W.any (.assign rfl) rfl rfl rfl ?_
        refine W.any (.assign rfl) rfl rfl rfl ?_
        refine W.nil ?_
        refine E.thenN ?_
        refine WC.ret ?_
        refine E.thenR ?_
        refine E.retG2 rfl rfl rfl ?_
        have hg : hopsG xs a x pts bl = ([], 1) := by rw [hg0, if_neg (by omega), if_pos (by omega)]
        exact ⟨none, 0, by rw [hg]; rfl, by rw [hg]; exact OVec.nil _ _ _ _ _ _, L1⟩
      · refine WC.condN rfl (decide_eq_false c1) ?_
        refine WC.skip ?_
        refine E.thenN ?_
        refine WC.seq ?_
        refine WC.region ?_
        refine W.any (.assign rfl) rfl rfl rfl ?_
        refine W.nil ?_
        refine E.thenN ?_
        refine WC.seq ?_
        refine WC.seq ?_
        refine WC.region ?_
        refine W.any (.assign rfl) rfl rfl rfl ?_
        refine W.nil ?_
        refine E.thenN ?_
        refine WC.block ?_
        refine WC.loop (ι := Nat × (Option Addr) × Nat) (fun ⟨k, Aa, ca⟩ => [(0, .slice A n c), (1, .int .i64 (a)), (2, .int .i64 (x)), (3, .slice Ap np cp), (4, .slice Ab nb cb), (12, .slice Aa1_3 C.1.length ca1_3), (13, .slice Ab1_3 C.2.1.length cb1_3), (15, .int .i64 (((n : Nat) : Int))), (16, .slice Aa k ca), (17, .int .i64 (((k : Nat) : Int)))]) (fun ⟨k, Aa, ca⟩ wl0 => (k ≤ n - 1) ∧ Le w wl0 ∧ w1_3.heap.size ≤ wl0.heap.size ∧ OVec wl0 w.heap.size 3 iv 1 Aa1_3 C.1.length ca1_3 C.1 ∧ OVec wl0 w.heap.size 3 iv 1 Ab1_3 C.2.1.length cb1_3 C.2.1 ∧ OVec wl0 w1_3.heap.size 95 hopV 6 Aa k ca ((List.range k).map (hopAt xs C.1 C.2.1 pts bl))) (fun ⟨k, Aa, ca⟩ => n - 1 - k) (0, none, 0) ?_ ?_ ?_
        · exact .cons rfl (.cons rfl (.cons rfl (.cons rfl (.cons rfl (.cons rfl (.cons rfl (.cons rfl (.cons rfl (.cons rfl (.nil _))))))))))
        · exact ⟨by omega, L1, Nat.le_refl _, oa1_3, ob1_3, (OVec.nil w1_3 w1_3.heap.size 95 hopV 6 none)⟩
        · rintro ⟨k, Aa, ca⟩ wl0 ⟨hk, Ll0, sz0, f0_0, f0_1, f0_2⟩
          have lb0_4 : w.heap.size ≤ wl0.heap.size := by have := h1_3.size; omega
          have lb0_5 : w.heap.size ≤ wl0.heap.size := by have := h1_3.size; omega
          have lb0_6 : w1_3.heap.size ≤ wl0.heap.size := by omega
          refine WC.seq ?_
          refine WC.seq ?_
          refine WC.region ?_
          refine W.any (.move rfl) rfl rfl rfl ?_
          refine W.any (.move rfl) rfl rfl rfl ?_
          refine W.any (.sub rfl rfl (by omega)) rfl rfl rfl ?_
          refine W.any (.lss rfl rfl) rfl rfl rfl ?_
          refine W.nil ?_
          refine E.thenN ?_
          by_cases c2 : ((k : Nat) : Int) < (((n : Nat) : Int) - 1)
          · refine WC.condY rfl (decide_eq_true c2) ?_
            refine WC.skip ?_
            refine E.thenN ?_
            refine WC.seq ?_
            refine WC.block ?_
            refine WC.draw [0, 1, 2, 3, 4, 5, 6, 7, 8, 9, 10, 11, 12, 13, 14, 15, 16, 17, 18, 19, 20, 21, 22, 23, 24, 25, 26, 27, 28, 29, 30, 31, 32, 33, 34, 35] mixed (by kernel_rfl) ?_
            intro w11 d11
            have L2 := Ll0.trans d11
            refine G.any rfl rfl (.move rfl) rfl rfl rfl ?_
            refine G.any rfl rfl (.move rfl) rfl rfl rfl ?_
            refine G.any rfl rfl (.move rfl) rfl rfl rfl ?_
            refine G.any rfl rfl (.add rfl rfl (by omega)) rfl rfl rfl ?_
            refine G.any rfl rfl (.idxS ((k + 1)) Try.underlying59 sz76 rfl rfl (hV.isSome edgeV_row (by omega)) (by omega) (by omega)) rfl rfl rfl ?_
            refine G.any rfl rfl (.vfield fa76_1 (hV.isSome edgeV_row (by omega)) rfl) rfl rfl rfl ?_
            refine G.rd rfl rfl (.vcell (j := (k + 1)) (o := 1) na3 rfl (hV.le L2) edgeV_row (getS xs noEdge (by first | omega | (simp only [List.length_cons, List.length_nil]; omega))) rfl) rfl rfl rfl ?_
            refine G.any rfl rfl (.move rfl) rfl rfl rfl ?_
            refine G.any rfl rfl (.move rfl) rfl rfl rfl ?_
            refine G.any rfl rfl (.add rfl rfl (by omega)) rfl rfl rfl ?_
            refine G.any rfl rfl (.idxS ((k + 1)) Try.underlying59 sz76 rfl rfl (hV.isSome edgeV_row (by omega)) (by omega) (by omega)) rfl rfl rfl ?_
            refine G.any rfl rfl (.vfield fa76_2 (hV.isSome edgeV_row (by omega)) rfl) rfl rfl rfl ?_
            refine G.rd rfl rfl (.vcell (j := (k + 1)) (o := 2) na3 rfl (hV.le L2) edgeV_row (getS xs noEdge (by first | omega | (simp only [List.length_cons, List.length_nil]; omega))) rfl) rfl rfl rfl ?_
            refine G.any rfl rfl (.move rfl) rfl rfl rfl ?_
            refine G.any rfl rfl (.move rfl) rfl rfl rfl ?_
            refine G.any rfl rfl (.add rfl rfl (by omega)) rfl rfl rfl ?_
            refine G.any rfl rfl (.idxS ((k + 1)) Try.underlying53 sz3 rfl rfl (oa1_3.vec.isSome iv_row (by omega)) (by omega) (by omega)) rfl rfl rfl ?_
            have f3 := (f0_0.le d11)
            refine G.rd rfl rfl (.vone na3 rfl f3.vec iv_row (getS C.1 0 (by first | omega | (simp only [List.length_cons, List.length_nil]; omega))) rfl) rfl rfl rfl ?_
            refine G.any rfl rfl (.move rfl) rfl rfl rfl ?_
            refine G.any rfl rfl (.move rfl) rfl rfl rfl ?_
            refine G.any rfl rfl (.add rfl rfl (by omega)) rfl rfl rfl ?_
            refine G.any rfl rfl (.idxS ((k + 1)) Try.underlying53 sz3 rfl rfl (ob1_3.vec.isSome iv_row (by omega)) (by omega) (by omega)) rfl rfl rfl ?_
            have f4 := (f0_1.le d11)
            refine G.rd rfl rfl (.vone na3 rfl f4.vec iv_row (getS C.2.1 0 (by first | omega | (simp only [List.length_cons, List.length_nil]; omega))) rfl) rfl rfl rfl ?_
            refine G.any rfl rfl (.move rfl) rfl rfl rfl ?_
            refine G.any rfl rfl (.move rfl) rfl rfl rfl ?_
            refine G.any rfl rfl (.add rfl rfl (by omega)) rfl rfl rfl ?_
            refine G.any rfl rfl (.idxS ((k + 1)) Try.underlying60 sz31 rfl rfl (hP.isSome pv1_row (by omega)) (by omega) (by omega)) rfl rfl rfl ?_
            refine G.rd rfl rfl (.vone na31 rfl (hP.le L2) pv1_row (getS pts 0 (by first | omega | (simp only [List.length_cons, List.length_nil]; omega))) rfl) rfl rfl rfl ?_
            refine G.any rfl rfl (.move rfl) rfl rfl rfl ?_
            refine G.any rfl rfl (.move rfl) rfl rfl rfl ?_
            refine G.any rfl rfl (.idxS (k) Try.underlying61 sz30 rfl rfl (hB.isSome pv1_row (by omega)) (rfl) (by omega)) rfl rfl rfl ?_
            refine G.rd rfl rfl (.vone na30 rfl (hB.le L2) pv1_row (getS bl 0 (by first | omega | (simp only [List.length_cons, List.length_nil]; omega))) rfl) rfl rfl rfl ?_
            refine G.any rfl rfl (.buildP (hopV ((xs.getD (k + 1) noEdge).t, (xs.getD (k + 1) noEdge).c, (C.1.getD (k + 1) 0), (C.2.1.getD (k + 1) 0), (pts.getD (k + 1) 0), (bl.getD k 0))) pl95 z95 rfl rfl) rfl rfl rfl ?_
            refine G.ef rfl rfl rfl rfl rfl ?_
            refine Ef.buildSliceV (len := 1) [_] Try.underlying66 el95 rfl (by simp [Value.cells, hopV_row.len]) rfl (by decide) (by decide) ?_
            intro g11_33 w11_33 hg11_33 b11_33 h11_33
            refine ⟨fun _ => h11_33, ?_⟩
            have L5 := L2.trans h11_33
            have b11_33 : Blk w11_33 g11_33 95 (([((xs.getD (k + 1) noEdge).t, (xs.getD (k + 1) noEdge).c, (C.1.getD (k + 1) 0), (C.2.1.getD (k + 1) 0), (pts.getD (k + 1) 0), (bl.getD k 0))]).map hopV).flatten.toArray := b11_33
            have o11_33 : OVec w11_33 w11.heap.size 95 hopV 6 (some ⟨g11_33, 0, none⟩) 1 1 ([((xs.getD (k + 1) noEdge).t, (xs.getD (k + 1) noEdge).c, (C.1.getD (k + 1) 0), (C.2.1.getD (k + 1) 0), (pts.getD (k + 1) 0), (bl.getD k 0))]) := b11_33.ovec hg11_33 hopV_row rfl rfl (by decide)
            have f6 := (f0_2.le (d11.trans h11_33))
            refine G.ef rfl rfl rfl rfl rfl ?_
            refine Ef.vpush (a := ((xs.getD (k + 1) noEdge).t, (xs.getD (k + 1) noEdge).c, (C.1.getD (k + 1) 0), (C.2.1.getD (k + 1) 0), (pts.getD (k + 1) 0), (bl.getD k 0))) Try.underlying66 el95 Try.underlying66 hopV_row rfl f6 rfl b11_33 (by omega) (by unfold maxLen; omega) (by have := lb0_6; have := d11.size; have := h11_33.size; omega) ?_
            intro A11_34 c11_34 w11_34 o11_34 h11_34 at11_34
            refine ⟨fun h => absurd h (ne_true_of_eq_false (by kernel_rfl)), ?_⟩
            have L7 : Le w w11_34 := L5.then_ h11_34 (fun q hq => Nat.le_trans L1.size (f6.row hq).1)
            refine G.any rfl rfl (.assign rfl) rfl rfl rfl ?_
            refine G.nil ?_
            refine E.blkN ?_
            refine E.thenN ?_
            refine WC.region ?_
            refine W.any (.move rfl) rfl rfl rfl ?_
            refine W.any (.add rfl rfl (by omega)) rfl rfl rfl ?_
            refine W.any (.assign rfl) rfl rfl rfl ?_
            refine W.nil ?_
            have f8 := ((f3.le h11_33).ch h11_34 ((Apart.symm (fun q h1 h2 => by have := (oa1_3.row h1).2; have := (f6.row h2).1; omega))))
            have f9 := ((f4.le h11_33).ch h11_34 ((Apart.symm (fun q h1 h2 => by have := (ob1_3.row h1).2; have := (f6.row h2).1; omega))))
            refine E.again (k + 1, A11_34, c11_34) (.cons rfl (.cons rfl (.cons rfl (.cons rfl (.cons rfl (.cons rfl (.cons rfl (.cons rfl (.cons rfl (.cons rfl (.nil _))))))))))) ?_ ?_
            · exact ⟨by omega, L7, by have := sz0; have := d11.size; have := h11_33.size; have := h11_34.size; omega, f8, f9, (o11_34).cast rfl (by rw [List.range_succ, List.map_append]; rfl)⟩
            · first | omega | (simp only []; omega)
          · refine WC.condN rfl (decide_eq_false c2) ?_
            refine WC.exit ?_
            refine E.thenX ?_
            refine E.thenX ?_
            refine E.blkH ?_
            refine E.thenN ?_
            refine WC.seq ?_
            refine WC.region ?_
            refine W.any (.move rfl) rfl rfl rfl ?_
            refine W.any (.move rfl) rfl rfl rfl ?_
            refine W.any (.move rfl) rfl rfl rfl ?_
            refine W.any (.move rfl) rfl rfl rfl ?_
            refine W.any (.move rfl) rfl rfl rfl ?_
            refine W.any (.sub rfl rfl (by omega)) rfl rfl rfl ?_
            refine W.any (.idxS ((n - 1)) Try.underlying60 sz31 rfl rfl (hP.isSome pv1_row (by omega)) (by omega) (by omega)) rfl rfl rfl ?_
            refine W.rd (.vone na31 rfl (hP.le Ll0) pv1_row (getS pts 0 (by first | omega | (simp only [List.length_cons, List.length_nil]; omega))) rfl) rfl rfl rfl ?_
            refine W.any (.buildP (hopV ((-1), 0, a, x, (pts.getD (n - 1) 0), 0)) pl95 z95 rfl rfl) rfl rfl rfl ?_
            refine W.ef rfl rfl rfl ?_
            refine Ef.buildSliceV (len := 1) [_] Try.underlying66 el95 rfl (by simp [Value.cells, hopV_row.len]) rfl (by decide) (by decide) ?_
            intro g12_9 w12_9 hg12_9 b12_9 h12_9
            have L10 := Ll0.trans h12_9
            have b12_9 : Blk w12_9 g12_9 95 (([((-1), 0, a, x, (pts.getD (n - 1) 0), 0)]).map hopV).flatten.toArray := b12_9
            have o12_9 : OVec w12_9 wl0.heap.size 95 hopV 6 (some ⟨g12_9, 0, none⟩) 1 1 ([((-1), 0, a, x, (pts.getD (n - 1) 0), 0)]) := b12_9.ovec hg12_9 hopV_row rfl rfl (by decide)
            have f11 := (f0_2.le h12_9)
            refine W.ef rfl rfl rfl ?_
            refine Ef.vpush (a := ((-1), 0, a, x, (pts.getD (n - 1) 0), 0)) Try.underlying66 el95 Try.underlying66 hopV_row rfl f11 rfl b12_9 (by omega) (by unfold maxLen; omega) (by have := lb0_6; have := h12_9.size; omega) ?_
            intro A12_10 c12_10 w12_10 o12_10 h12_10 at12_10
            have L12 : Le w w12_10 := L10.then_ h12_10 (fun q hq => Nat.le_trans L1.size (f11.row hq).1)
            refine W.any (.assign rfl) rfl rfl rfl ?_
            refine W.any (.assign rfl) rfl rfl rfl ?_
            refine W.nil ?_
            refine E.thenN ?_
            refine WC.ret ?_
            refine E.retG2 rfl rfl rfl ?_
            have hg : hopsG xs a x pts bl = (hopsL xs C.1 C.2.1 pts bl a x, 0) := by rw [hg0, if_neg (by omega), if_neg (by omega)]
            have hk1 : k = xs.length - 1 := by omega
            subst hk1
            exact ⟨A12_10, c12_10, by rw [hg]; simp [hopsL], by rw [hg]; exact ((o12_10.mono L1.size)).cast (by simp [hopsL]) (by unfold hopsL; rw [hl]), L12⟩
end Go.Proofs.Ytfgakofjkldcjaa
