/- Edges put in order: the library's insertion sort, walked. -/
import Derived.Test.YtfgakofjkldcjaaGraph
import Derived.Test.YtfgakofjkldcjaaGsp2
namespace Go.Proofs.Ytfgakofjkldcjaa
open Go Go.Sx Go.Hsp Go.Num Go.Osp Go.Gsp
set_option maxRecDepth 20000
set_option linter.unusedSimpArgs false
set_option linter.unusedVariables false
theorem insort_ok (a b : Nat) {base : Nat} {A : Option Addr} {n c : Nat} {xs : List Gsp.Edge} (w : World) (hO : OVec w base 76 edgeV 9 A n c xs) (hb : b ≤ n) (hn : n ≤ 1000000) (ha : a ≤ n) : Calls Try.prog 159 #[.slice A n c, .int .i64 (((a : Nat) : Int)), .int .i64 (((b : Nat) : Int)), .func (.func 85) #[] #[]] w fun r w' => r = .returned (.tuple #[]) ∧ OVec w' base 76 edgeV 9 A n c (isort a b xs) ∧ Ch w w' (rowOf A c) := by
  have hl := hO.1
  refine enter Try.func159 rfl rfl ?_
  have L0 := Ch.refl w (rowOf A c)
  refine WC.seq ?_
  refine WC.region ?_
  refine W.any (.move rfl) rfl rfl rfl ?_
  refine W.any (.add rfl rfl (by omega)) rfl rfl rfl ?_
  refine W.any (.assign rfl) rfl rfl rfl ?_
  refine W.nil ?_
  refine E.thenN ?_
  refine WC.block ?_
  refine WC.loop (ι := Nat × (List Gsp.Edge)) (fun ⟨i, ys⟩ => [(0, .slice A n c), (1, .int .i64 (((a : Nat) : Int))), (2, .int .i64 (((b : Nat) : Int))), (3, .func (.func 85) #[] #[]), (8, .int .i64 (((i : Nat) : Int)))]) (fun ⟨i, ys⟩ wl0 => (a + 1 ≤ i) ∧ (ys.length = n) ∧ (isoC a b i ys = isort a b xs) ∧ Ch w wl0 (rowOf A c) ∧ w.heap.size ≤ wl0.heap.size ∧ OVec wl0 base 76 edgeV 9 A n c ys) (fun ⟨i, ys⟩ => b - i) (a + 1, xs) ?_ ?_ ?_
  · exact .cons rfl (.cons rfl (.cons rfl (.cons rfl (.cons rfl (.nil _)))))
  · exact ⟨Nat.le_refl _, hl, rfl, L0, Nat.le_refl _, hO⟩
  · rintro ⟨i, ys⟩ wl0 ⟨hi, hyl, hF, Ll0, sz0, f0_0⟩
    refine WC.seq ?_
    refine WC.seq ?_
    refine WC.region ?_
    refine W.any (.move rfl) rfl rfl rfl ?_
    refine W.any (.move rfl) rfl rfl rfl ?_
    refine W.any (.lss rfl rfl) rfl rfl rfl ?_
    refine W.nil ?_
    refine E.thenN ?_
    by_cases c0 : ((i : Nat) : Int) < ((b : Nat) : Int)
    · refine WC.condY rfl (decide_eq_true c0) ?_
      refine WC.skip ?_
      refine E.thenN ?_
      refine WC.seq ?_
      refine WC.block ?_
      refine WC.seq ?_
      refine WC.region ?_
      refine W.any (.move rfl) rfl rfl rfl ?_
      refine W.any (.assign rfl) rfl rfl rfl ?_
      refine W.nil ?_
      refine E.thenN ?_
      refine WC.block ?_
      refine WC.loop (ι := Nat × (List Gsp.Edge)) (fun ⟨j, zs⟩ => [(0, .slice A n c), (1, .int .i64 (((a : Nat) : Int))), (2, .int .i64 (((b : Nat) : Int))), (3, .func (.func 85) #[] #[]), (8, .int .i64 (((i : Nat) : Int))), (9, .int .i64 (((j : Nat) : Int)))]) (fun ⟨j, zs⟩ wl1 => (a ≤ j) ∧ (j ≤ i) ∧ (zs.length = n) ∧ (bub a j zs = bub a i ys) ∧ Ch w wl1 (rowOf A c) ∧ wl0.heap.size ≤ wl1.heap.size ∧ OVec wl1 base 76 edgeV 9 A n c zs) (fun ⟨j, zs⟩ => j) (i, ys) ?_ ?_ ?_
      · exact .cons rfl (.cons rfl (.cons rfl (.cons rfl (.cons rfl (.cons rfl (.nil _))))))
      · exact ⟨by omega, Nat.le_refl _, hyl, rfl, Ll0, Nat.le_refl _, f0_0⟩
      · rintro ⟨j, zs⟩ wl1 ⟨hj1, hj2, hzl, hG, Ll1, sz1, f1_0⟩
        refine WC.seq ?_
        refine WC.seq ?_
        refine WC.draw [0, 1, 2, 3, 4, 5, 6, 7, 8, 9, 10, 11, 12, 13, 14, 15, 16] mixed (by kernel_rfl) ?_
        intro w4 d4
        have L1 := Ll1.trans (d4.ch _)
        refine G.any rfl rfl (.move rfl) rfl rfl rfl ?_
        refine G.any rfl rfl (.move rfl) rfl rfl rfl ?_
        refine G.any rfl rfl (.gtr rfl rfl) rfl rfl rfl ?_
        by_cases q4_3 : ((a : Nat) : Int) < ((j : Nat) : Int)
        · refine G.any rfl rfl (.dec (.move rfl) (decide_eq_true q4_3)) rfl rfl rfl ?_
          refine G.anyg rfl rfl (.move rfl) rfl rfl rfl (rfl) rfl rfl ?_
          refine G.anyg rfl rfl (.move rfl) rfl rfl rfl (rfl) rfl rfl ?_
          refine G.anyg rfl rfl (.move rfl) rfl rfl rfl (rfl) rfl rfl ?_
          refine G.anyg rfl rfl (.idxS (j) Try.underlying59 sz76 rfl rfl (hO.vec.isSome edgeV_row (by omega)) (rfl) (by omega)) rfl rfl rfl (rfl) rfl rfl ?_
          have f2 := (f1_0.le d4)
          refine G.rdg rfl rfl (.vload ag76 rfl f2.vec edgeV_row (getS zs noEdge (by first | omega | (simp only [List.length_cons, List.length_nil]; omega)))) rfl rfl rfl (rfl) rfl rfl ?_
          refine G.anyg rfl rfl (.move rfl) rfl rfl rfl (rfl) rfl rfl ?_
          refine G.anyg rfl rfl (.move rfl) rfl rfl rfl (rfl) rfl rfl ?_
          refine G.anyg rfl rfl (.sub rfl rfl (by omega)) rfl rfl rfl (rfl) rfl rfl ?_
          refine G.anyg rfl rfl (.idxS ((j - 1)) Try.underlying59 sz76 rfl rfl (hO.vec.isSome edgeV_row (by omega)) (by omega) (by omega)) rfl rfl rfl (rfl) rfl rfl ?_
          refine G.rdg rfl rfl (.vload ag76 rfl f2.vec edgeV_row (getS zs noEdge (by first | omega | (simp only [List.length_cons, List.length_nil]; omega)))) rfl rfl rfl (rfl) rfl rfl ?_
          refine G.efg rfl rfl rfl rfl rfl (rfl) rfl rfl ?_
          refine Ef.call go85 rfl rfl (order_ok (zs.getD j noEdge) (zs.getD (j - 1) noEdge) w4) ?_
          rintro _ w4_14 ⟨rfl, h4_14⟩
          refine ⟨_, rfl, ?_⟩
          refine ⟨fun _ => h4_14, ?_⟩
          have L3 := L1.trans (h4_14.ch _)
          refine G.anyg rfl rfl (.lss rfl rfl) rfl rfl rfl (rfl) rfl rfl ?_
          refine G.any rfl rfl (.pickT rfl rfl rfl) rfl rfl rfl ?_
          refine G.nil ?_
          refine E.thenN ?_
          by_cases c1 : (ordE (zs.getD j noEdge) (zs.getD (j - 1) noEdge)) < 0
          · refine WC.condY rfl (decide_eq_true c1) ?_
            refine WC.skip ?_
            refine E.thenN ?_
            refine WC.seq ?_
            refine WC.block ?_
            refine WC.draw [0, 1, 2, 3, 4, 5, 6, 7, 8, 9, 10, 11, 12, 13, 14, 15, 16, 17] mixed (by kernel_rfl) ?_
            intro w6 d6
            have L4 := L3.trans (d6.ch _)
            refine G.any rfl rfl (.move rfl) rfl rfl rfl ?_
            refine G.any rfl rfl (.move rfl) rfl rfl rfl ?_
            refine G.any rfl rfl (.move rfl) rfl rfl rfl ?_
            refine G.any rfl rfl (.move rfl) rfl rfl rfl ?_
            refine G.any rfl rfl (.sub rfl rfl (by omega)) rfl rfl rfl ?_
            refine G.any rfl rfl (.move rfl) rfl rfl rfl ?_
            refine G.any rfl rfl (.move rfl) rfl rfl rfl ?_
            refine G.any rfl rfl (.sub rfl rfl (by omega)) rfl rfl rfl ?_
            refine G.any rfl rfl (.idxS ((j - 1)) Try.underlying59 sz76 rfl rfl (hO.vec.isSome edgeV_row (by omega)) (by omega) (by omega)) rfl rfl rfl ?_
            have f5 := (f2.le (h4_14.trans d6))
            refine G.rd rfl rfl (.vload ag76 rfl f5.vec edgeV_row (getS zs noEdge (by first | omega | (simp only [List.length_cons, List.length_nil]; omega)))) rfl rfl rfl ?_
            refine G.any rfl rfl (.move rfl) rfl rfl rfl ?_
            refine G.any rfl rfl (.move rfl) rfl rfl rfl ?_
            refine G.any rfl rfl (.idxS (j) Try.underlying59 sz76 rfl rfl (hO.vec.isSome edgeV_row (by omega)) (rfl) (by omega)) rfl rfl rfl ?_
            refine G.rd rfl rfl (.vload ag76 rfl f5.vec edgeV_row (getS zs noEdge (by first | omega | (simp only [List.length_cons, List.length_nil]; omega)))) rfl rfl rfl ?_
            refine G.any rfl rfl (.idxS (j) Try.underlying59 sz76 rfl rfl (hO.vec.isSome edgeV_row (by omega)) (rfl) (by omega)) rfl rfl rfl ?_
            refine G.ef0 rfl rfl rfl rfl ?_
            refine Ef.vput (j := j) (zs.getD (j - 1) noEdge) sz76 rfl rfl rfl f5 edgeV_row (by omega) ?_
            intro w6_15 o6_15 h6_15
            refine ⟨fun h => absurd h (ne_true_of_eq_false (by kernel_rfl)), ?_⟩
            have L6 := L4.trans h6_15
            refine G.any rfl rfl (.idxS ((j - 1)) Try.underlying59 sz76 rfl rfl (hO.vec.isSome edgeV_row (by omega)) (by omega) (by omega)) rfl rfl rfl ?_
            refine G.ef0 rfl rfl rfl rfl ?_
            refine Ef.vput (j := (j - 1)) (zs.getD j noEdge) sz76 rfl rfl rfl o6_15 edgeV_row (by omega) ?_
            intro w6_17 o6_17 h6_17
            refine ⟨fun h => absurd h (ne_true_of_eq_false (by kernel_rfl)), ?_⟩
            have L7 := L6.trans h6_17
            refine G.nil ?_
            refine E.blkN ?_
            refine E.thenN ?_
            refine WC.region ?_
            refine W.any (.move rfl) rfl rfl rfl ?_
            refine W.any (.sub rfl rfl (by omega)) rfl rfl rfl ?_
            refine W.any (.assign rfl) rfl rfl rfl ?_
            refine W.nil ?_
            refine E.again (j - 1, ((zs.set j (zs.getD (j - 1) noEdge)).set (j - 1) (zs.getD j noEdge))) (.cons rfl (.cons rfl (.cons rfl (.cons rfl (.cons rfl (.cons' rfl (int_eq (by omega)) (.nil _))))))) ?_ ?_
            · exact ⟨by omega, by omega, by simp [hzl], by rw [← bub_down (by omega) (by assumption)]; exact hG, L7, by have := sz1; have := d4.size; have := h4_14.size; have := d6.size; have := h6_15.size; have := h6_17.size; omega, o6_17⟩
            · first | omega | (simp only []; omega)
          · refine WC.condN rfl (decide_eq_false c1) ?_
            refine WC.exit ?_
            refine E.thenX ?_
            refine E.thenX ?_
            refine E.blkH ?_
            refine E.blkN ?_
            refine E.thenN ?_
            refine WC.region ?_
            refine W.any (.move rfl) rfl rfl rfl ?_
            refine W.any (.add rfl rfl (by omega)) rfl rfl rfl ?_
            refine W.any (.assign rfl) rfl rfl rfl ?_
            refine W.nil ?_
            have f8 := (f2.le h4_14)
            refine E.again (i + 1, zs) (.cons rfl (.cons rfl (.cons rfl (.cons rfl (.cons rfl (.nil _)))))) ?_ ?_
            · exact ⟨by omega, hzl, by have hG2 := hG; rw [bub_stop (xs := zs) (by intro h; omega)] at hG2; rw [← hF, isoC_step (xs := ys) (by omega), ← hG2], L3, by have := sz0; have := d4.size; have := h4_14.size; have := sz1; omega, f8⟩
            · first | omega | (simp only []; omega)
        · refine G.any rfl rfl (.dec (.move rfl) (decide_eq_false q4_3)) rfl rfl rfl ?_
          refine G.skip rfl rfl rfl rfl (rfl) rfl rfl ?_
          refine G.skip rfl rfl rfl rfl (rfl) rfl rfl ?_
          refine G.skip rfl rfl rfl rfl (rfl) rfl rfl ?_
          refine G.skip rfl rfl rfl rfl (rfl) rfl rfl ?_
          refine G.skip rfl rfl rfl rfl (rfl) rfl rfl ?_
          refine G.skip rfl rfl rfl rfl (rfl) rfl rfl ?_
          refine G.skip rfl rfl rfl rfl (rfl) rfl rfl ?_
          refine G.skip rfl rfl rfl rfl (rfl) rfl rfl ?_
          refine G.skip rfl rfl rfl rfl (rfl) rfl rfl ?_
          refine G.skip rfl rfl rfl rfl (rfl) rfl rfl ?_
          refine G.skip rfl rfl rfl rfl (rfl) rfl rfl ?_
          refine G.skip rfl rfl rfl rfl (rfl) rfl rfl ?_
          refine G.any rfl rfl (.pickF rfl rfl rfl) rfl rfl rfl ?_
          refine G.nil ?_
          refine E.thenN ?_
          refine WC.condF rfl ?_
          refine WC.exit ?_
          refine E.thenX ?_
          refine E.thenX ?_
          refine E.blkH ?_
          refine E.blkN ?_
          refine E.thenN ?_
          refine WC.region ?_
          refine W.any (.move rfl) rfl rfl rfl ?_
          refine W.any (.add rfl rfl (by omega)) rfl rfl rfl ?_
          refine W.any (.assign rfl) rfl rfl rfl ?_
          refine W.nil ?_
          have f9 := (f1_0.le d4)
          refine E.again (i + 1, zs) (.cons rfl (.cons rfl (.cons rfl (.cons rfl (.cons rfl (.nil _)))))) ?_ ?_
          · exact ⟨by omega, hzl, by have hG2 := hG; rw [bub_stop (xs := zs) (by intro h; omega)] at hG2; rw [← hF, isoC_step (xs := ys) (by omega), ← hG2], L1, by have := sz0; have := d4.size; have := sz1; omega, f9⟩
          · first | omega | (simp only []; omega)
    · refine WC.condN rfl (decide_eq_false c0) ?_
      refine WC.exit ?_
      refine E.thenX ?_
      refine E.thenX ?_
      refine E.blkH ?_
      refine E.end_ ?_
      refine E.ret0 rfl ?_
      exact ⟨rfl, f0_0.cast rfl (by rw [← hF, isoC_end (by omega)]), Ll0⟩

theorem stable20_ok {base : Nat} {A : Option Addr} {n c : Nat} {xs : List Gsp.Edge} (w : World) (hO : OVec w base 76 edgeV 9 A n c xs) (hn : n < 20) : Calls Try.prog 135 #[.slice A n c, .int .i64 (((n : Nat) : Int)), .func (.func 85) #[] #[]] w fun r w' => r = .returned (.tuple #[]) ∧ OVec w' base 76 edgeV 9 A n c (isort 0 n xs) ∧ Ch w w' (rowOf A c) := by
  have hl := hO.1
  refine enter Try.func135 rfl rfl ?_
  have L0 := Ch.refl w (rowOf A c)
  refine WC.seq ?_
  refine WC.region ?_
  refine W.any (.assign rfl) rfl rfl rfl ?_
  refine W.nil ?_
  refine E.thenN ?_
  refine WC.seq ?_
  refine WC.region ?_
  refine W.any (.move rfl) rfl rfl rfl ?_
  refine W.any (.assign rfl) rfl rfl rfl ?_
  refine W.any (.assign rfl) rfl rfl rfl ?_
  refine W.nil ?_
  refine E.thenN ?_
  refine WC.seq ?_
  refine WC.block ?_
  refine WC.loop (ι := Unit) (fun u => [(0, .slice A n c), (1, .int .i64 (((n : Nat) : Int))), (2, .func (.func 85) #[] #[]), (6, .int .i64 (20)), (7, .int .i64 (0)), (8, .int .i64 (20))]) (fun u wl0 => Ch w wl0 (rowOf A c) ∧ w.heap.size ≤ wl0.heap.size ∧ OVec wl0 base 76 edgeV 9 A n c xs) (fun u => 0) () ?_ ?_ ?_
  · exact .cons rfl (.cons rfl (.cons rfl (.cons rfl (.cons rfl (.cons rfl (.nil _))))))
  · exact ⟨L0, Nat.le_refl _, hO⟩
  · rintro u wl0 ⟨Ll0, sz0, f0_0⟩
    refine WC.seq ?_
    refine WC.seq ?_
    refine WC.region ?_
    refine W.any (.move rfl) rfl rfl rfl ?_
    refine W.any (.move rfl) rfl rfl rfl ?_
    refine W.any (.leq rfl rfl) rfl rfl rfl ?_
    refine W.nil ?_
    refine E.thenN ?_
    refine WC.condN rfl (decide_eq_false (by omega)) ?_
    refine WC.exit ?_
    refine E.thenX ?_
    refine E.thenX ?_
    refine E.blkH ?_
    refine E.thenN ?_
    refine WC.seq ?_
    refine WC.region ?_
    refine W.any (.move rfl) rfl rfl rfl ?_
    refine W.any (.move rfl) rfl rfl rfl ?_
    refine W.any (.move rfl) rfl rfl rfl ?_
    refine W.any (.move rfl) rfl rfl rfl ?_
    refine W.ef rfl rfl rfl ?_
    refine Ef.call go159 rfl rfl (insort_ok 0 n wl0 f0_0 (by omega) (by omega) (by omega)) ?_
    rintro _ w6_4 ⟨rfl, o6_4, h6_4⟩
    refine ⟨_, rfl, ?_⟩
    have L1 := Ll0.trans h6_4
    refine W.nil ?_
    refine E.thenN ?_
    refine WC.block ?_
    refine WC.loop (ι := Unit) (fun u => [(0, .slice A n c), (1, .int .i64 (((n : Nat) : Int))), (2, .func (.func 85) #[] #[]), (6, .int .i64 (20))]) (fun u wl1 => Ch w wl1 (rowOf A c) ∧ w6_4.heap.size ≤ wl1.heap.size ∧ OVec wl1 base 76 edgeV 9 A n c (isort 0 n xs)) (fun u => 0) () ?_ ?_ ?_
    · exact .cons rfl (.cons rfl (.cons rfl (.cons rfl (.nil _))))
    · exact ⟨L1, Nat.le_refl _, o6_4⟩
    · rintro u wl1 ⟨Ll1, sz1, f1_0⟩
      refine WC.seq ?_
      refine WC.seq ?_
      refine WC.region ?_
      refine W.any (.move rfl) rfl rfl rfl ?_
      refine W.any (.move rfl) rfl rfl rfl ?_
      refine W.any (.lss rfl rfl) rfl rfl rfl ?_
      refine W.nil ?_
      refine E.thenN ?_
      refine WC.condN rfl (decide_eq_false (by omega)) ?_
      refine WC.exit ?_
      refine E.thenX ?_
      refine E.thenX ?_
      refine E.blkH ?_
      refine E.end_ ?_
      refine E.ret0 rfl ?_
      exact ⟨rfl, f1_0, Ll1⟩

theorem sort20_ok {base : Nat} {A : Option Addr} {n c : Nat} {xs : List Gsp.Edge} (w : World) (hO : OVec w base 76 edgeV 9 A n c xs) (hn : n < 20) : Calls Try.prog 84 #[.slice A n c, .func (.func 85) #[] #[]] w fun r w' => r = .returned (.tuple #[]) ∧ OVec w' base 76 edgeV 9 A n c (isort 0 n xs) ∧ Ch w w' (rowOf A c) := by
  refine enter Try.func84 rfl rfl ?_
  have L0 := Ch.refl w (rowOf A c)
  refine WC.region ?_
  refine W.any (.move rfl) rfl rfl rfl ?_
  refine W.any (.move rfl) rfl rfl rfl ?_
  refine W.rd (.len Try.underlying59 rfl) rfl rfl rfl ?_
  refine W.any (.move rfl) rfl rfl rfl ?_
  refine W.ef rfl rfl rfl ?_
  refine Ef.call go135 rfl rfl (stable20_ok w hO (by omega)) ?_
  rintro _ w0_4 ⟨rfl, o0_4, h0_4⟩
  refine ⟨_, rfl, ?_⟩
  have L1 := L0.trans h0_4
  refine W.nil ?_
  refine E.end_ ?_
  refine E.ret0 rfl ?_
  exact ⟨rfl, o0_4, L1⟩

theorem of20_ok {A : Option Addr} {n c : Nat} {xs : List Gsp.Edge} (w : World) (hV : Vec w edgeV 9 A n xs) (hn : n < 20) : Calls Try.prog 41 #[.slice A n c] w fun r w' => ∃ A' c', r = .returned (.slice A' (isort 0 (xs.filter edgeOk).length (xs.filter edgeOk)).length c') ∧ OVec w' w.heap.size 76 edgeV 9 A' (isort 0 (xs.filter edgeOk).length (xs.filter edgeOk)).length c' (isort 0 (xs.filter edgeOk).length (xs.filter edgeOk)) ∧ Le w w' := by
  have hl := hV.1
  have hfl := List.length_filter_le edgeOk xs
  refine enter Try.func41 rfl rfl ?_
  have L0 := Le.refl w
  refine WC.seq ?_
  refine WC.region ?_
  refine W.any (.assign rfl) rfl rfl rfl ?_
  refine W.nil ?_
  refine E.thenN ?_
  refine WC.seq ?_
  refine WC.region ?_
  refine W.any (.move rfl) rfl rfl rfl ?_
  refine W.ef rfl rfl rfl ?_
  refine Ef.call go83 rfl rfl (those_ok edgeOk go82 w (hV.le L0) (by omega) (fun e w1 _ => edge_ok e w1)) ?_
  rintro _ w1_1 ⟨At1_1, ct1_1, rfl, ot1_1, h1_1⟩
  refine ⟨_, rfl, ?_⟩
  have L2 := L0.trans h1_1
  refine W.any (.assign rfl) rfl rfl rfl ?_
  refine W.nil ?_
  refine E.thenN ?_
  refine WC.seq ?_
  refine WC.region ?_
  refine W.any (.move rfl) rfl rfl rfl ?_
  refine W.ef rfl rfl rfl ?_
  refine Ef.call go84 rfl rfl (sort20_ok w1_1 ot1_1 (by omega)) ?_
  rintro _ w2_1 ⟨rfl, o2_1, h2_1⟩
  refine ⟨_, rfl, ?_⟩
  have L3 : Le w w2_1 := L2.then_ h2_1 (fun q hq => Nat.le_trans L0.size (ot1_1.row hq).1)
  refine W.nil ?_
  refine E.thenN ?_
  refine WC.seq ?_
  refine WC.region ?_
  refine W.any (.move rfl) rfl rfl rfl ?_
  refine W.any (.assign rfl) rfl rfl rfl ?_
  refine W.nil ?_
  refine E.thenN ?_
  refine WC.ret ?_
  refine E.retG1 rfl rfl ?_
  exact ⟨_, _, by rw [isort_length], ((o2_1.mono L0.size)).cast (by rw [isort_length]) rfl, L3⟩
end Go.Proofs.Ytfgakofjkldcjaa
