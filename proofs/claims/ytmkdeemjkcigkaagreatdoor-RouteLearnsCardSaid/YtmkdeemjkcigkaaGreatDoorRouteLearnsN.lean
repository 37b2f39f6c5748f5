/- RouteLearns: for every input the law answers true and leaves its arguments as they were. -/
import Derived.Test.YtmkdeemjkcigkaaGreatDoorRouteLearnsM
import Derived.Handy
import Derived.OrdersHeld
import Derived.WalkKit
import Derived.Deep.AppendSrc
import Derived.Deep.MidRow
import Derived.Laws.OwnMore
import Derived.WalkSpells
import Derived.Lib.ConvBytes
import Derived.Lib.AppendZerosOnto
import Derived.Laws.StructEq
import Derived.Maps.RangeRun
import Derived.Laws.Pointers
import Derived.Laws.Concat
import Derived.Test.YtmkdeemjkcigkaaGreatDoorProg
import Derived.KernelRfl
import Derived.Lib.Mul64
set_option linter.unusedVariables false
set_option linter.unusedSimpArgs false
namespace Go.Proofs.YtmkdeemjkcigkaaGreatDoor
open Go Go.Sx Go.Hsp Go.Num Go.Osp Go.Gsp
set_option maxRecDepth 20000
set_option linter.unusedSimpArgs false
set_option linter.unusedVariables false
theorem cost_ok (a x : Int) {A : Option Addr} {n c : Nat} {xs : List Gsp.Edge} (w : World) (hV : Vec w edgeV 9 A n xs) (hn : n ≤ 1000000) : Calls Tryz.prog 44 #[.slice A n c, .int .i64 (a), .int .i64 (x)] w fun r w' => ∃ A1 c1 A2 c2, r = .returned (.tuple #[.slice A1 (costG xs a x).1.length c1, .slice A2 (costG xs a x).2.1.length c2, .int .i64 (costG xs a x).2.2]) ∧ OVec w' w.heap.size 3 iv 1 A1 (costG xs a x).1.length c1 (costG xs a x).1 ∧ OVec w' w.heap.size 3 iv 1 A2 (costG xs a x).2.1.length c2 (costG xs a x).2.1 ∧ Le w w' := by
  have hl := hV.1
  refine enter Tryz.func44 rfl rfl ?_
  have L0 := Le.refl w
  refine WC.seq ?_
  refine WC.region ?_
  refine W.any (.assign rfl) rfl rfl rfl ?_
  refine W.any (.assign rfl) rfl rfl rfl ?_
  refine W.any (.assign rfl) rfl rfl rfl ?_
  refine W.nil ?_
  refine E.thenN ?_
  refine WC.seq ?_
  refine WC.seq ?_
  refine WC.region ?_
  refine W.any (.move rfl) rfl rfl rfl ?_
  refine W.ef rfl rfl rfl ?_
  refine Ef.call go25 rfl rfl (gway_ok w (hV.le L0) (by omega)) ?_
  rintro _ w1_1 ⟨rfl, h1_1⟩
  refine ⟨_, rfl, ?_⟩
  have L1 := L0.trans h1_1
  refine W.any (.not rfl) rfl rfl rfl ?_
  refine W.nil ?_
  refine E.thenN ?_
  by_cases c0 : (wayG xs) = true
  · refine WC.condN rfl (congrArg not (c0)) ?_
    refine WC.skip ?_
    refine E.thenN ?_
    refine WC.seq ?_
    refine WC.seq ?_
    refine WC.region ?_
    refine W.any (.move rfl) rfl rfl rfl ?_
    refine W.ef rfl rfl rfl ?_
    refine Ef.call go64 rfl rfl (gin_ok a 1 1125899906842624 w1_1) ?_
    rintro _ w3_1 ⟨rfl, h3_1⟩
    refine ⟨_, rfl, ?_⟩
    have L2 := L1.trans h3_1
    refine W.any (.not rfl) rfl rfl rfl ?_
    by_cases q3_3 : (inB a 1 1125899906842624) = true
    · refine W.any (.dec (.move rfl) (congrArg not (q3_3))) rfl rfl rfl ?_
      refine W.rdg (Any.rd (.move rfl) _) rfl rfl rfl (rfl) rfl rfl ?_
      refine W.efg rfl rfl rfl (rfl) rfl rfl ?_
      refine Ef.call go64 rfl rfl (gin_ok x 1 1048576 w3_1) ?_
      rintro _ w3_5 ⟨rfl, h3_5⟩
      refine ⟨_, rfl, ?_⟩
      have L3 := L2.trans h3_5
      refine W.rdg (Any.rd (.not rfl) _) rfl rfl rfl (rfl) rfl rfl ?_
      refine W.any (.pickF rfl rfl rfl) rfl rfl rfl ?_
      refine W.nil ?_
      refine E.thenN ?_
      by_cases c1 : (inB x 1 1048576) = true
      · refine WC.condN rfl (congrArg not (c1)) ?_
        have hwl := wayG_len (by assumption : wayG xs = true)
        have ha1 := inB_T (by assumption : inB a 1 1125899906842624 = true)
        have hx1 := inB_T (by assumption : inB x 1 1048576 = true)
        refine WC.skip ?_
        refine E.thenN ?_
        refine WC.cut (ι := Nat × Nat) (fun ⟨g1, g2⟩ => [(0, .slice A n c), (1, .int .i64 (a)), (2, .int .i64 (x)), (9, .slice (some ⟨g1, 0, none⟩) n n), (10, .slice (some ⟨g2, 0, none⟩) n n)]) (fun ⟨g1, g2⟩ wc6 => Le w wc6 ∧ w3_5.heap.size ≤ wc6.heap.size ∧ OVec wc6 w3_5.heap.size 3 iv 1 (some ⟨g1, 0, none⟩) n n (List.replicate n 0) ∧ OVec wc6 w3_5.heap.size 3 iv 1 (some ⟨g2, 0, none⟩) n n (List.replicate n 0) ∧ Apart (some ⟨g1, 0, none⟩) n (some ⟨g2, 0, none⟩) n) ?_ ?_
        · refine WC.drawT (fun o => (app o [0, 1, 3, 4] (.br (app o [2, 6, 5, 7] .nil) (app o [5, 2, 6, 7] .nil)))) mixed (by kernel_rfl) ?_
          intro w5 d5
          have L4 := L3.trans d5
          refine GT.app ?_
          refine G.any rfl rfl (.move rfl) rfl rfl rfl ?_
          refine G.rd rfl rfl (.len Tryz.underlying22 rfl) rfl rfl rfl ?_
          refine G.any rfl rfl (.move rfl) rfl rfl rfl ?_
          refine G.rd rfl rfl (.len Tryz.underlying22 rfl) rfl rfl rfl ?_
          refine G.nil ?_
          refine GT.br ?_ ?_
          · refine GT.last ?_
            refine G.ef rfl rfl rfl rfl rfl ?_
            refine Ef.vmake 0 n Tryz.underlying24 el3 iv_row rfl rfl (rfl) rfl (rfl) (by omega) (by unfold maxLen; omega) ?_
            intro g5_2 w5_2 hg5_2 o5_2 h5_2
            refine ⟨fun _ => h5_2, ?_⟩
            have L5 := L4.trans h5_2
            refine G.any rfl rfl (.assign rfl) rfl rfl rfl ?_
            refine G.ef rfl rfl rfl rfl rfl ?_
            refine Ef.vmake 0 n Tryz.underlying24 el3 iv_row rfl rfl (rfl) rfl (rfl) (by omega) (by unfold maxLen; omega) ?_
            intro g5_5 w5_5 hg5_5 o5_5 h5_5
            refine ⟨fun _ => h5_5, ?_⟩
            have L6 := L5.trans h5_5
            refine G.any rfl rfl (.assign rfl) rfl rfl rfl ?_
            refine G.nil ?_
            have f7 := (o5_2.le h5_5)
            refine E.meet (g5_2, g5_5) (.cons rfl (.cons rfl (.cons rfl (.cons rfl (.cons rfl (.nil _)))))) ?_
            exact ⟨L6, by have := d5.size; have := h5_2.size; have := h5_5.size; omega, (f7.mono (by have := d5.size; omega)), (o5_5.mono (by have := d5.size; have := h5_2.size; omega)), (fun q h1 h2 => by have := (o5_2.row h1).2; have := (o5_5.row h2).1; omega)⟩
          · refine GT.last ?_
            refine G.ef rfl rfl rfl rfl rfl ?_
            refine Ef.vmake 0 n Tryz.underlying24 el3 iv_row rfl rfl (rfl) rfl (rfl) (by omega) (by unfold maxLen; omega) ?_
            intro g5_5_1 w5_5_1 hg5_5_1 o5_5_1 h5_5_1
            refine ⟨fun _ => h5_5_1, ?_⟩
            have L8 := L4.trans h5_5_1
            refine G.ef rfl rfl rfl rfl rfl ?_
            refine Ef.vmake 0 n Tryz.underlying24 el3 iv_row rfl rfl (rfl) rfl (rfl) (by omega) (by unfold maxLen; omega) ?_
            intro g5_2_1 w5_2_1 hg5_2_1 o5_2_1 h5_2_1
            refine ⟨fun _ => h5_2_1, ?_⟩
            have L9 := L8.trans h5_2_1
            refine G.any rfl rfl (.assign rfl) rfl rfl rfl ?_
            refine G.any rfl rfl (.assign rfl) rfl rfl rfl ?_
            refine G.nil ?_
            have f10 := (o5_5_1.le h5_2_1)
            refine E.meet (g5_2_1, g5_5_1) (.cons rfl (.cons rfl (.cons rfl (.cons rfl (.cons rfl (.nil _)))))) ?_
            exact ⟨L9, by have := d5.size; have := h5_5_1.size; have := h5_2_1.size; omega, (o5_2_1.mono (by have := d5.size; have := h5_5_1.size; omega)), (f10.mono (by have := d5.size; omega)), (Apart.symm (fun q h1 h2 => by have := (o5_5_1.row h1).2; have := (o5_2_1.row h2).1; omega))⟩
        · rintro ⟨g1, g2⟩ wc6 ⟨Lc1, sc1, o1_9, o1_10, ap1_9_10⟩
          have lc1_2 : w3_5.heap.size ≤ wc6.heap.size := by have := sc1; omega
          have lc1_3 : w3_5.heap.size ≤ wc6.heap.size := by have := sc1; omega
          refine WC.seq ?_
          refine WC.seq ?_
          refine WC.region ?_
          refine W.any (.move rfl) rfl rfl rfl ?_
          refine W.rd (.len Tryz.underlying22 rfl) rfl rfl rfl ?_
          refine W.any (.sub rfl rfl (by omega)) rfl rfl rfl ?_
          refine W.any (.assign rfl) rfl rfl rfl ?_
          refine W.nil ?_
          refine E.thenN ?_
          refine WC.block ?_
          refine WC.loop (ι := Nat × Int × Int × (Option (Int × Int)) × (List (Int × Int))) (fun ⟨j, am, ex, nx, l⟩ => [(0, .slice A n c), (1, .int .i64 (am)), (2, .int .i64 (ex)), (9, .slice (some ⟨g1, 0, none⟩) n n), (10, .slice (some ⟨g2, 0, none⟩) n n), (11, .int .i64 (((j : Nat) : Int) - 1))]) (fun ⟨j, am, ex, nx, l⟩ wl0 => (j ≤ n) ∧ (l.length = n - j) ∧ (costF a x (xs.drop j) = .ok (nx, l)) ∧ (0 < j → nx = some (am, ex) ∧ 0 ≤ am ∧ am ≤ 1125899906842624 ∧ 0 ≤ ex ∧ ex ≤ 2097152) ∧ Le w wl0 ∧ wc6.heap.size ≤ wl0.heap.size ∧ OVec wl0 w3_5.heap.size 3 iv 1 (some ⟨g1, 0, none⟩) n n (List.replicate j 0 ++ l.map Prod.fst) ∧ OVec wl0 w3_5.heap.size 3 iv 1 (some ⟨g2, 0, none⟩) n n (List.replicate j 0 ++ l.map Prod.snd)) (fun ⟨j, am, ex, nx, l⟩ => j) (n, a, x, some (a, x), []) ?_ ?_ ?_
          · exact .cons rfl (.cons rfl (.cons rfl (.cons rfl (.cons rfl (.cons rfl (.nil _))))))
          · exact ⟨Nat.le_refl _, by simp, by rw [List.drop_of_length_le (by omega)]; rfl, fun _ => ⟨rfl, by omega, by omega, by omega, by omega⟩, Lc1, Nat.le_refl _, (o1_9).cast rfl (by simp), (o1_10).cast rfl (by simp)⟩
          · rintro ⟨j, am, ex, nx, l⟩ wl0 ⟨hj, hll, hF, hnx, Ll0, zl0, f0_0, f0_1⟩
            have lb0_2 : w3_5.heap.size ≤ wl0.heap.size := Nat.le_trans lc1_3 (by omega)
            have lb0_3 : w3_5.heap.size ≤ wl0.heap.size := Nat.le_trans lc1_3 (by omega)
            refine WC.seq ?_
            refine WC.seq ?_
            refine WC.region ?_
            refine W.any (.move rfl) rfl rfl rfl ?_
            refine W.any (.geq rfl rfl) rfl rfl rfl ?_
            refine W.nil ?_
            refine E.thenN ?_
            by_cases c2 : 0 ≤ (((j : Nat) : Int) - 1)
            · refine WC.condY rfl (decide_eq_true c2) ?_
              obtain ⟨rfl, ham0, ham1, hex0, hex1⟩ := hnx (by omega)
              have hok := edgeOk_T (wayG_at (by assumption : wayG xs = true) (i := j - 1) (by omega)).1
              have hpk := polOk_T hok.2.2.2.2.2
              have hpI := polI_ok hok.2.2.2.2.2
              refine WC.skip ?_
              refine E.thenN ?_
              refine WC.seq ?_
              refine WC.block ?_
              refine WC.seq ?_
              refine WC.region ?_
              refine W.any (.move rfl) rfl rfl rfl ?_
              refine W.any (.move rfl) rfl rfl rfl ?_
              refine W.any (.idxS ((j - 1)) Tryz.underlying22 sz51 rfl rfl (hV.isSome edgeV_row (by omega)) (by omega) (by omega)) rfl rfl rfl ?_
              refine W.rd (.vload ag51 rfl (hV.le Ll0) edgeV_row (getS xs noEdge (by first | omega | (simp only [List.length_cons, List.length_nil]; omega)))) rfl rfl rfl ?_
              refine W.ef rfl rfl rfl ?_
              refine Ef.allocA z51 ?_
              intro g9_4 w9_4 hg9_4 b9_4 h9_4
              have L11 := Ll0.trans h9_4
              have b9_4 : Blk w9_4 g9_4 51 (edgeV noEdge).toArray := b9_4
              refine W.ef0 rfl rfl ?_
              refine Ef.storeAll sz51 (by rfl) rfl rfl b9_4 (by simp only [List.size_toArray, edgeV_row.len]) (edgeV_row.one (xs.getD (j - 1) noEdge)) ?_
              intro w9_5 b9_5 h9_5
              have b9_5 : Blk w9_5 g9_4 51 (edgeV (xs.getD (j - 1) noEdge)).toArray := b9_5
              have L12 : Le w w9_5 := L11.then_ h9_5 (fun q hq => by cases hq; exact Nat.le_trans Ll0.size hg9_4)
              refine W.nil ?_
              refine E.thenN ?_
              refine WC.seq ?_
              refine WC.block ?_
              refine WC.seq ?_
              refine WC.region ?_
              refine W.any (.move rfl) rfl rfl rfl ?_
              refine W.any (.field0 fa51_4 rfl) rfl rfl rfl ?_
              refine W.any (.field2 fa49_3 rfl) rfl rfl rfl ?_
              refine W.rd (.loadB (v := .int .i64 ((xs.getD (j - 1) noEdge).pol.l)) na3 rfl b9_5 rfl) rfl rfl rfl ?_
              refine W.any (.field0 fa51_4 rfl) rfl rfl rfl ?_
              refine W.any (.field2 fa49_4 rfl) rfl rfl rfl ?_
              refine W.rd (.loadB (v := .int .i64 ((xs.getD (j - 1) noEdge).pol.m)) na3 rfl b9_5 rfl) rfl rfl rfl ?_
              refine W.any (.field0 fa51_3 rfl) rfl rfl rfl ?_
              refine W.rd (.loadB (v := .int .i64 ((xs.getD (j - 1) noEdge).r)) na3 rfl b9_5 rfl) rfl rfl rfl ?_
              refine W.rd (.min2 rfl rfl) rfl rfl rfl ?_
              refine W.ef rfl rfl rfl ?_
              refine Ef.call go64 rfl rfl (gin_ok am ((xs.getD (j - 1) noEdge).pol.l) (min ((xs.getD (j - 1) noEdge).pol.m) ((xs.getD (j - 1) noEdge).r)) w9_5) ?_
              rintro _ w10_10 ⟨rfl, h10_10⟩
              refine ⟨_, rfl, ?_⟩
              have L13 := L12.trans h10_10
              refine W.any (.not rfl) rfl rfl rfl ?_
              refine W.any (.assign rfl) rfl rfl rfl ?_
              refine W.nil ?_
              refine E.thenN ?_
              by_cases c3 : (inB am ((xs.getD (j - 1) noEdge).pol.l) (min ((xs.getD (j - 1) noEdge).pol.m) ((xs.getD (j - 1) noEdge).r))) = true
              · refine WC.condN rfl (congrArg not (c3)) ?_
                refine WC.seq ?_
                refine WC.region ?_
                refine W.any (.move rfl) rfl rfl rfl ?_
                refine W.any (.gtr rfl rfl) rfl rfl rfl ?_
                refine W.any (.assign rfl) rfl rfl rfl ?_
                refine W.nil ?_
                refine E.thenN ?_
                by_cases c4 : 1048576 < ex
                · refine WC.condY rfl (decide_eq_true c4) ?_
                  refine WC.seq ?_
                  refine WC.region ?_
                  refine W.any (.assign rfl) rfl rfl rfl ?_
                  refine W.any (.assign rfl) rfl rfl rfl ?_
                  refine W.any (.assign rfl) rfl rfl rfl ?_
                  refine W.nil ?_
                  refine E.thenN ?_
                  refine WC.ret ?_
                  refine E.blkR ?_
                  refine E.thenR ?_
                  refine E.blkR ?_
                  refine E.thenR ?_
                  refine E.thenR ?_
                  refine E.blkR ?_
                  refine E.thenR ?_
                  refine E.retG3 rfl rfl rfl rfl ?_
                  have hc : costG xs a x = ([], [], 16) := costG_er (by assumption) (by assumption) (by assumption) (costF_late (by omega) (by omega) hF (by assumption) (by omega))
                  exact ⟨none, 0, none, 0, by rw [hc]; rfl, by rw [hc]; exact OVec.nil _ _ _ _ _ _, by rw [hc]; exact OVec.nil _ _ _ _ _ _, L13⟩
                · refine WC.condN rfl (decide_eq_false c4) ?_
                  refine WC.skip ?_
                  refine E.blkN ?_
                  refine E.thenN ?_
                  refine WC.seq ?_
                  refine WC.region ?_
                  refine W.any (.move rfl) rfl rfl rfl ?_
                  refine W.any (.move rfl) rfl rfl rfl ?_
                  refine W.any (.move rfl) rfl rfl rfl ?_
                  refine W.any (.move rfl) rfl rfl rfl ?_
                  refine W.any (.move rfl) rfl rfl rfl ?_
                  refine W.any (.move rfl) rfl rfl rfl ?_
                  refine W.any (.idxS ((j - 1)) Tryz.underlying24 sz3 rfl rfl (o1_9.vec.isSome iv_row (by omega)) (by omega) (by omega)) rfl rfl rfl ?_
                  have f14 := (((f0_0.le h9_4).ch h9_5 (fun q hq => by cases hq; exact (fun he => by have := (f0_0.row he).2; omega))).le h10_10)
                  refine W.ef0 rfl rfl ?_
                  refine Ef.vset (j := (j - 1)) (o := 0) am sz3 rfl (by omega) rfl f14 iv_row (getS (List.replicate j 0 ++ l.map Prod.fst) 0 (by simp; omega)) (by decide) rfl rfl ?_
                  intro w14_7 o14_7 h14_7
                  have L15 : Le w w14_7 := L13.then_ h14_7 (fun q hq => Nat.le_trans L3.size (f14.row hq).1)
                  have o16 := o14_7.cast (m' := n) (ys := (List.replicate (j - 1) 0 ++ am :: l.map Prod.fst)) (rfl) (rep_set _ _ _ (by omega))
                  refine W.any (.idxS ((j - 1)) Tryz.underlying24 sz3 rfl rfl (o1_10.vec.isSome iv_row (by omega)) (by omega) (by omega)) rfl rfl rfl ?_
                  have f17 := ((((f0_1.le h9_4).ch h9_5 (fun q hq => by cases hq; exact (fun he => by have := (f0_1.row he).2; omega))).le h10_10).ch h14_7 (ap1_9_10))
                  refine W.ef0 rfl rfl ?_
                  refine Ef.vset (j := (j - 1)) (o := 0) ex sz3 rfl (by omega) rfl f17 iv_row (getS (List.replicate j 0 ++ l.map Prod.snd) 0 (by simp; omega)) (by decide) rfl rfl ?_
                  intro w14_9 o14_9 h14_9
                  have L18 : Le w w14_9 := L15.then_ h14_9 (fun q hq => Nat.le_trans L3.size (f17.row hq).1)
                  have o19 := o14_9.cast (m' := n) (ys := (List.replicate (j - 1) 0 ++ ex :: l.map Prod.snd)) (rfl) (rep_set _ _ _ (by omega))
                  refine W.nil ?_
                  refine E.thenN ?_
                  refine WC.seq ?_
                  refine WC.region ?_
                  refine W.any (.field0 fa51_4 rfl) rfl rfl rfl ?_
                  have f20 := (((b9_5.le h10_10).ch h14_7 (fun he => by have := (f0_0.row he).2; omega)).ch h14_9 (fun he => by have := (f0_1.row he).2; omega))
                  refine W.rd (.bpart (polV ((xs.getD (j - 1) noEdge).pol)) ag49 rfl (by decide) rfl f20 rfl) rfl rfl rfl ?_
                  refine W.any (.move rfl) rfl rfl rfl ?_
                  refine W.ef rfl rfl rfl ?_
                  refine Ef.call go85 rfl rfl (hfee_ok ((xs.getD (j - 1) noEdge).pol) am hpI w14_9) ?_
                  rintro _ w15_3 ⟨rfl, h15_3⟩
                  refine ⟨_, rfl, ?_⟩
                  have L21 := L18.trans h15_3
                  refine W.any (.move rfl) rfl rfl rfl ?_
                  refine W.any (.extract (v := .int .i64 ((feeG ((xs.getD (j - 1) noEdge).pol) am).1)) rfl rfl) rfl rfl rfl ?_
                  refine W.any (.extract (v := .bool ((feeG ((xs.getD (j - 1) noEdge).pol) am).2)) rfl rfl) rfl rfl rfl ?_
                  refine W.any (.assign rfl) rfl rfl rfl ?_
                  refine W.any (.assign rfl) rfl rfl rfl ?_
                  refine W.nil ?_
                  refine E.thenN ?_
                  refine WC.seq ?_
                  refine WC.region ?_
                  refine W.any (.move rfl) rfl rfl rfl ?_
                  refine W.any (.move rfl) rfl rfl rfl ?_
                  refine W.ef rfl rfl rfl ?_
                  refine Ef.call go86 rfl rfl (nadd_ok am ((feeG ((xs.getD (j - 1) noEdge).pol) am).1) w15_3) ?_
                  rintro _ w16_2 ⟨rfl, h16_2⟩
                  refine ⟨_, rfl, ?_⟩
                  have L22 := L21.trans h16_2
                  refine W.any (.move rfl) rfl rfl rfl ?_
                  refine W.any (.extract (v := .int .i64 ((addC am ((feeG ((xs.getD (j - 1) noEdge).pol) am).1)).1)) rfl rfl) rfl rfl rfl ?_
                  refine W.any (.extract (v := .bool ((addC am ((feeG ((xs.getD (j - 1) noEdge).pol) am).1)).2)) rfl rfl) rfl rfl rfl ?_
                  refine W.any (.assign rfl) rfl rfl rfl ?_
                  refine W.any (.assign rfl) rfl rfl rfl ?_
                  refine W.nil ?_
                  refine E.thenN ?_
                  refine WC.seq ?_
                  refine WC.seq ?_
                  refine WC.region ?_
                  refine W.any (.move rfl) rfl rfl rfl ?_
                  refine W.any (.gtr rfl rfl) rfl rfl rfl ?_
                  by_cases q17_2 : 0 < (((j : Nat) : Int) - 1)
                  · refine W.any (.dec (.move rfl) (decide_eq_true q17_2)) rfl rfl rfl ?_
                    refine W.rdg (Any.rd (.move rfl) _) rfl rfl rfl (rfl) rfl rfl ?_
                    refine W.rdg (Any.rd (.not rfl) _) rfl rfl rfl (rfl) rfl rfl ?_
                    by_cases q17_5 : ((feeG ((xs.getD (j - 1) noEdge).pol) am).2) = true
                    · refine W.rdg (Any.rd (.dec (.move rfl) (congrArg not (q17_5))) _) rfl rfl rfl (rfl) rfl rfl ?_
                      refine W.rdg (Any.rd (.move rfl) _) rfl rfl rfl (rfl) rfl rfl ?_
                      refine W.rdg (Any.rd (.not rfl) _) rfl rfl rfl (rfl) rfl rfl ?_
                      refine W.rdg (Any.rd (.pickF rfl rfl rfl) _) rfl rfl rfl (rfl) rfl rfl ?_
                      refine W.any (.pickT rfl rfl rfl) rfl rfl rfl ?_
                      refine W.nil ?_
                      refine E.thenN ?_
                      by_cases c5 : ((addC am ((feeG ((xs.getD (j - 1) noEdge).pol) am).1)).2) = true
                      · refine WC.condN rfl (congrArg not (c5)) ?_
                        refine WC.skip ?_
                        refine E.thenN ?_
                        refine WC.draw [0, 1, 2, 3, 4, 5, 6, 7] mixed (by kernel_rfl) ?_
                        intro w19 d19
                        have L23 := L22.trans d19
                        refine G.any rfl rfl (.move rfl) rfl rfl rfl ?_
                        refine G.any rfl rfl (.move rfl) rfl rfl rfl ?_
                        refine G.any rfl rfl (.field0 fa51_4 rfl) rfl rfl rfl ?_
                        refine G.any rfl rfl (.field2 fa49_2 rfl) rfl rfl rfl ?_
                        have f24 := (f20.le (h15_3.trans (h16_2.trans d19)))
                        refine G.rd rfl rfl (.loadB (v := .int .i64 ((xs.getD (j - 1) noEdge).pol.d)) na3 rfl f24 rfl) rfl rfl rfl ?_
                        refine G.any rfl rfl (.add rfl rfl (by omega)) rfl rfl rfl ?_
                        refine G.any rfl rfl (.assign rfl) rfl rfl rfl ?_
                        refine G.any rfl rfl (.assign rfl) rfl rfl rfl ?_
                        refine G.nil ?_
                        refine E.blkN ?_
                        refine E.thenN ?_
                        refine WC.region ?_
                        refine W.any (.move rfl) rfl rfl rfl ?_
                        refine W.any (.sub rfl rfl (by omega)) rfl rfl rfl ?_
                        refine W.any (.assign rfl) rfl rfl rfl ?_
                        refine W.nil ?_
                        have f25 := ((o16.ch h14_9 ((Apart.symm ap1_9_10))).le (h15_3.trans (h16_2.trans d19)))
                        have f26 := (o19.le (h15_3.trans (h16_2.trans d19)))
                        refine E.again (j - 1, (addC am (feeG (xs.getD (j - 1) noEdge).pol am).1).1, ex + (xs.getD (j - 1) noEdge).pol.d, nextC (xs.getD (j - 1) noEdge) am ex, (am, ex) :: l) (.cons rfl (.cons rfl (.cons rfl (.cons rfl (.cons rfl (.cons' rfl (int_eq (by omega)) (.nil _))))))) ?_ ?_
                        · exact ⟨by omega, by simp; omega, costF_step (by omega) (by omega) hF (by assumption) (by omega), fun h0 => by first | (exfalso; omega) | (have hv := addC_val (by assumption : (addC am (feeG (xs.getD (j - 1) noEdge).pol am).1).2 = true); rw [hv.1]; exact ⟨by rw [nextC_some (by assumption) (by assumption), hv.1], by omega, by omega, by omega, by omega⟩), L23, by have := zl0; have := h9_4.size; have := h9_5.size; have := h10_10.size; have := h14_7.size; have := h14_9.size; have := h15_3.size; have := h16_2.size; have := d19.size; omega, f25, f26⟩
                        · first | omega | (simp only []; omega)
                      · refine WC.condY rfl (congrArg not ((Bool.eq_false_iff.2 c5))) ?_
                        refine WC.seq ?_
                        refine WC.region ?_
                        refine W.any (.assign rfl) rfl rfl rfl ?_
                        refine W.any (.assign rfl) rfl rfl rfl ?_
                        refine W.any (.assign rfl) rfl rfl rfl ?_
                        refine W.nil ?_
                        refine E.thenN ?_
                        refine WC.ret ?_
                        refine E.thenR ?_
                        refine E.blkR ?_
                        refine E.thenR ?_
                        refine E.thenR ?_
                        refine E.blkR ?_
                        refine E.thenR ?_
                        refine E.retG3 rfl rfl rfl rfl ?_
                        have hc : costG xs a x = ([], [], 6) := costG_er (by assumption) (by assumption) (by assumption) (by first | exact costF_six (by omega) (by omega) hF (by assumption) | exact costF_none (j := j - 1) (by omega) (by omega) (by rw [costF_step (by omega) (by omega) hF (by assumption) (by omega), nextC_none (by first | exact .inl (by assumption) | exact .inr (by assumption))]))
                        exact ⟨none, 0, none, 0, by rw [hc]; rfl, by rw [hc]; exact OVec.nil _ _ _ _ _ _, by rw [hc]; exact OVec.nil _ _ _ _ _ _, L22⟩
                    · refine W.rdg (Any.rd (.dec (.move rfl) (congrArg not ((Bool.eq_false_iff.2 q17_5)))) _) rfl rfl rfl (rfl) rfl rfl ?_
                      refine W.skip rfl rfl rfl (rfl) rfl rfl ?_
                      refine W.skip rfl rfl rfl (rfl) rfl rfl ?_
                      refine W.rdg (Any.rd (.pickT rfl rfl rfl) _) rfl rfl rfl (rfl) rfl rfl ?_
                      refine W.any (.pickT rfl rfl rfl) rfl rfl rfl ?_
                      refine W.nil ?_
                      refine E.thenN ?_
                      refine WC.condT rfl ?_
                      refine WC.seq ?_
                      refine WC.region ?_
                      refine W.any (.assign rfl) rfl rfl rfl ?_
                      refine W.any (.assign rfl) rfl rfl rfl ?_
                      refine W.any (.assign rfl) rfl rfl rfl ?_
                      refine W.nil ?_
                      refine E.thenN ?_
                      refine WC.ret ?_
                      refine E.thenR ?_
                      refine E.blkR ?_
                      refine E.thenR ?_
                      refine E.thenR ?_
                      refine E.blkR ?_
                      refine E.thenR ?_
                      refine E.retG3 rfl rfl rfl rfl ?_
                      have hc : costG xs a x = ([], [], 6) := costG_er (by assumption) (by assumption) (by assumption) (by first | exact costF_six (by omega) (by omega) hF (by assumption) | exact costF_none (j := j - 1) (by omega) (by omega) (by rw [costF_step (by omega) (by omega) hF (by assumption) (by omega), nextC_none (by first | exact .inl (by assumption) | exact .inr (by assumption))]))
                      exact ⟨none, 0, none, 0, by rw [hc]; rfl, by rw [hc]; exact OVec.nil _ _ _ _ _ _, by rw [hc]; exact OVec.nil _ _ _ _ _ _, L22⟩
                  · refine W.any (.dec (.move rfl) (decide_eq_false q17_2)) rfl rfl rfl ?_
                    refine W.skip rfl rfl rfl (rfl) rfl rfl ?_
                    refine W.skip rfl rfl rfl (rfl) rfl rfl ?_
                    refine W.skip rfl rfl rfl (rfl) rfl rfl ?_
                    refine W.skipu rfl rfl rfl rfl rfl ?_
                    refine W.skipu rfl rfl rfl rfl rfl ?_
                    refine W.skip rfl rfl rfl (rfl) rfl rfl ?_
                    refine W.any (.pickF rfl rfl rfl) rfl rfl rfl ?_
                    refine W.nil ?_
                    refine E.thenN ?_
                    refine WC.condF rfl ?_
                    refine WC.skip ?_
                    refine E.thenN ?_
                    refine WC.draw [0, 1, 2, 3, 4, 5, 6, 7] mixed (by kernel_rfl) ?_
                    intro w19 d19
                    have L27 := L22.trans d19
                    refine G.any rfl rfl (.move rfl) rfl rfl rfl ?_
                    refine G.any rfl rfl (.move rfl) rfl rfl rfl ?_
                    refine G.any rfl rfl (.field0 fa51_4 rfl) rfl rfl rfl ?_
                    refine G.any rfl rfl (.field2 fa49_2 rfl) rfl rfl rfl ?_
                    have f28 := (f20.le (h15_3.trans (h16_2.trans d19)))
                    refine G.rd rfl rfl (.loadB (v := .int .i64 ((xs.getD (j - 1) noEdge).pol.d)) na3 rfl f28 rfl) rfl rfl rfl ?_
                    refine G.any rfl rfl (.add rfl rfl (by omega)) rfl rfl rfl ?_
                    refine G.any rfl rfl (.assign rfl) rfl rfl rfl ?_
                    refine G.any rfl rfl (.assign rfl) rfl rfl rfl ?_
                    refine G.nil ?_
                    refine E.blkN ?_
                    refine E.thenN ?_
                    refine WC.region ?_
                    refine W.any (.move rfl) rfl rfl rfl ?_
                    refine W.any (.sub rfl rfl (by omega)) rfl rfl rfl ?_
                    refine W.any (.assign rfl) rfl rfl rfl ?_
                    refine W.nil ?_
                    have f29 := ((o16.ch h14_9 ((Apart.symm ap1_9_10))).le (h15_3.trans (h16_2.trans d19)))
                    have f30 := (o19.le (h15_3.trans (h16_2.trans d19)))
                    refine E.again (j - 1, (addC am (feeG (xs.getD (j - 1) noEdge).pol am).1).1, ex + (xs.getD (j - 1) noEdge).pol.d, nextC (xs.getD (j - 1) noEdge) am ex, (am, ex) :: l) (.cons rfl (.cons rfl (.cons rfl (.cons rfl (.cons rfl (.cons' rfl (int_eq (by omega)) (.nil _))))))) ?_ ?_
                    · exact ⟨by omega, by simp; omega, costF_step (by omega) (by omega) hF (by assumption) (by omega), fun h0 => by first | (exfalso; omega) | (have hv := addC_val (by assumption : (addC am (feeG (xs.getD (j - 1) noEdge).pol am).1).2 = true); rw [hv.1]; exact ⟨by rw [nextC_some (by assumption) (by assumption), hv.1], by omega, by omega, by omega, by omega⟩), L27, by have := zl0; have := h9_4.size; have := h9_5.size; have := h10_10.size; have := h14_7.size; have := h14_9.size; have := h15_3.size; have := h16_2.size; have := d19.size; omega, f29, f30⟩
                    · first | omega | (simp only []; omega)
              · refine WC.condY rfl (congrArg not ((Bool.eq_false_iff.2 c3))) ?_
                refine WC.seq ?_
                refine WC.region ?_
                refine W.any (.assign rfl) rfl rfl rfl ?_
                refine W.any (.assign rfl) rfl rfl rfl ?_
                refine W.any (.assign rfl) rfl rfl rfl ?_
                refine W.nil ?_
                refine E.thenN ?_
                refine WC.ret ?_
                refine E.blkR ?_
                refine E.thenR ?_
                refine E.blkR ?_
                refine E.thenR ?_
                refine E.thenR ?_
                refine E.blkR ?_
                refine E.thenR ?_
                refine E.retG3 rfl rfl rfl rfl ?_
                have hc : costG xs a x = ([], [], 6) := costG_er (by assumption) (by assumption) (by assumption) (by first | exact costF_six (by omega) (by omega) hF (by assumption) | exact costF_none (j := j - 1) (by omega) (by omega) (by rw [costF_step (by omega) (by omega) hF (by assumption) (by omega), nextC_none (by first | exact .inl (by assumption) | exact .inr (by assumption))]))
                exact ⟨none, 0, none, 0, by rw [hc]; rfl, by rw [hc]; exact OVec.nil _ _ _ _ _ _, by rw [hc]; exact OVec.nil _ _ _ _ _ _, L13⟩
            · refine WC.condN rfl (decide_eq_false c2) ?_
              have hj0 : j = 0 := by omega
              refine WC.exit ?_
              refine E.thenX ?_
              refine E.thenX ?_
              refine E.blkH ?_
              refine E.thenN ?_
              refine WC.seq ?_
              refine WC.region ?_
              refine W.any (.move rfl) rfl rfl rfl ?_
              refine W.any (.move rfl) rfl rfl rfl ?_
              refine W.any (.assign rfl) rfl rfl rfl ?_
              refine W.any (.assign rfl) rfl rfl rfl ?_
              refine W.any (.assign rfl) rfl rfl rfl ?_
              refine W.nil ?_
              refine E.thenN ?_
              refine WC.ret ?_
              refine E.retG3 rfl rfl rfl rfl ?_
              have hc := costG_ok (by assumption) (by assumption) (by assumption) (show costF a x xs = .ok (nx, l) by rw [show j = 0 by omega] at hF; exact hF)
              subst hj0
              exact ⟨some ⟨g1, 0, none⟩, n, some ⟨g2, 0, none⟩, n, by rw [hc]; simp [show l.length = n by omega], by rw [hc]; exact ((f0_0.mono L3.size)).cast (by simp; omega) (by simp), by rw [hc]; exact ((f0_1.mono L3.size)).cast (by simp; omega) (by simp), Ll0⟩
      · refine WC.condY rfl (congrArg not ((Bool.eq_false_iff.2 c1))) ?_
        refine WC.seq ?_
        refine WC.region ?_
        refine W.any (.assign rfl) rfl rfl rfl ?_
        refine W.any (.assign rfl) rfl rfl rfl ?_
        refine W.any (.assign rfl) rfl rfl rfl ?_
        refine W.nil ?_
        refine E.thenN ?_
        refine WC.ret ?_
        refine E.thenR ?_
        refine E.retG3 rfl rfl rfl rfl ?_
        have hc : costG xs a x = ([], [], 1) := costG_arg (by assumption) (by first | exact .inl (by assumption) | exact .inr (by assumption))
        exact ⟨none, 0, none, 0, by rw [hc]; rfl, by rw [hc]; exact OVec.nil _ _ _ _ _ _, by rw [hc]; exact OVec.nil _ _ _ _ _ _, L3⟩
    · refine W.any (.dec (.move rfl) (congrArg not ((Bool.eq_false_iff.2 q3_3)))) rfl rfl rfl ?_
      refine W.skip rfl rfl rfl (rfl) rfl rfl ?_
      refine W.skip rfl rfl rfl (rfl) rfl rfl ?_
      refine W.skip rfl rfl rfl (rfl) rfl rfl ?_
      refine W.any (.pickT rfl rfl rfl) rfl rfl rfl ?_
      refine W.nil ?_
      refine E.thenN ?_
      refine WC.condT rfl ?_
      refine WC.seq ?_
      refine WC.region ?_
      refine W.any (.assign rfl) rfl rfl rfl ?_
      refine W.any (.assign rfl) rfl rfl rfl ?_
      refine W.any (.assign rfl) rfl rfl rfl ?_
      refine W.nil ?_
      refine E.thenN ?_
      refine WC.ret ?_
      refine E.thenR ?_
      refine E.retG3 rfl rfl rfl rfl ?_
      have hc : costG xs a x = ([], [], 1) := costG_arg (by assumption) (by first | exact .inl (by assumption) | exact .inr (by assumption))
      exact ⟨none, 0, none, 0, by rw [hc]; rfl, by rw [hc]; exact OVec.nil _ _ _ _ _ _, by rw [hc]; exact OVec.nil _ _ _ _ _ _, L2⟩
  · refine WC.condY rfl (congrArg not ((Bool.eq_false_iff.2 c0))) ?_
    refine WC.seq ?_
    refine WC.region ?_
    refine W.any (.assign rfl) rfl rfl rfl ?_
    refine W.any (.assign rfl) rfl rfl rfl ?_
    refine W.any (.assign rfl) rfl rfl rfl ?_
    refine W.nil ?_
    refine E.thenN ?_
    refine WC.ret ?_
    refine E.thenR ?_
    refine E.retG3 rfl rfl rfl rfl ?_
    have hc : costG xs a x = ([], [], 19) := costG_way (by assumption)
    exact ⟨none, 0, none, 0, by rw [hc]; rfl, by rw [hc]; exact OVec.nil _ _ _ _ _ _, by rw [hc]; exact OVec.nil _ _ _ _ _ _, L1⟩
end Go.Proofs.YtmkdeemjkcigkaaGreatDoor

namespace Go.Proofs.YtmkdeemjkcigkaaGreatDoor
open Go Go.Sx Go.Num Go.Osp Go.Gsp
set_option maxRecDepth 20000
set_option linter.unusedSimpArgs false
set_option linter.unusedVariables false
theorem mul_step (an nn k : Nat) : an / 2 ^ k * nn = 2 * (an / 2 ^ (k + 1) * nn) + an / 2 ^ k % 2 * nn := by
  have h : an / 2 ^ k = 2 * (an / 2 ^ (k + 1)) + an / 2 ^ k % 2 := by rw [Nat.pow_succ, ← Nat.div_div_eq_div_mul]; omega
  calc an / 2 ^ k * nn = (2 * (an / 2 ^ (k + 1)) + an / 2 ^ k % 2) * nn := by rw [← h]
    _ = _ := by rw [Nat.add_mul, Nat.mul_assoc]
end Go.Proofs.YtmkdeemjkcigkaaGreatDoor

