/- The document's own hash, walked: it computes what the program's hash computes. -/
import Derived.Test.YtpmjdiccekkadaaHash2
import Derived.Test.YtpmjdiccekkadaaRsp
import Derived.Test.YtpmjdiccekkadaaSxf
namespace Go.Proofs.Ytpmjdiccekkadaa
open Go Go.Sx Go.Hsp
set_option maxRecDepth 20000
theorem rturn_ok (x : BitVec 32) (k : Nat) (w : World) (hk : 1 ≤ k ∧ k ≤ 31) : Calls Try.prog 139 #[u32v x, .int .i64 (k : Int)] w fun e w' => e = .returned (u32v (rot x k)) ∧ Le w w' := by
  refine enter Try.func139 rfl rfl ?_
  have L0 := Le.refl w
  refine WC.seq ?_
  refine WC.region ?_
  refine W.any (.assign rfl) rfl rfl rfl ?_
  refine W.nil ?_
  refine E.thenN ?_
  refine WC.seq ?_
  refine WC.draw [0, 1, 2, 3, 4, 5, 6, 7, 8] mixed (by kernel_rfl) ?_
  intro w1 d1
  have L1 := L0.trans d1
  refine G.any rfl rfl (.move rfl) rfl rfl rfl ?_
  refine G.any rfl rfl (.move rfl) rfl rfl rfl ?_
  refine G.any rfl rfl (.shr32 k rfl rfl rfl (by omega)) rfl rfl rfl ?_
  refine G.any rfl rfl (.move rfl) rfl rfl rfl ?_
  refine G.any rfl rfl (.move rfl) rfl rfl rfl ?_
  refine G.any rfl rfl (.sub rfl rfl (by omega)) rfl rfl rfl ?_
  refine G.any rfl rfl (.shl32 (32 - k) rfl rfl (by omega) (by omega)) rfl rfl rfl ?_
  refine G.any rfl rfl (.or32 rfl rfl) rfl rfl rfl ?_
  refine G.any rfl rfl (.assign rfl) rfl rfl rfl ?_
  refine G.nil ?_
  refine E.thenN ?_
  refine WC.ret ?_
  refine E.ret1 rfl rfl ?_
  exact ⟨by rw [rot_comm], L1⟩

theorem rfirsts_ok (w : World) : Calls Try.prog 125 #[] w fun e w' => ∃ A' c', e = .returned (.slice A' (8) c') ∧ Own w' w.heap.size 150 1 A' (8) c' (first.map u32v) ∧ Le w w' := by
  refine enter Try.func125 rfl rfl ?_
  have L0 := Le.refl w
  refine WC.seq ?_
  refine WC.region ?_
  refine W.any (.assign rfl) rfl rfl rfl ?_
  refine W.nil ?_
  refine E.thenN ?_
  refine WC.seq ?_
  refine WC.region ?_
  refine W.ef rfl rfl rfl ?_
  refine Ef.buildSliceN (first.map u32v) Try.underlying147 el150 (by kernel_rfl) (all_u32v _) rfl (by decide) (by decide) ?_
  intro g1_0 w1_0 hg1_0 b1_0 h1_0
  have L1_0 := L0.trans h1_0
  refine W.any (.assign rfl) rfl rfl rfl ?_
  refine W.nil ?_
  refine E.thenN ?_
  refine WC.ret ?_
  refine E.ret1 rfl rfl ?_
  exact ⟨_, _, rfl, b1_0.own (s := 1) (n := 8) hg1_0 rfl (by unfold maxLen; omega), L1_0⟩

theorem radds_ok (w : World) : Calls Try.prog 138 #[] w fun e w' => ∃ A' c', e = .returned (.slice A' (64) c') ∧ Own w' w.heap.size 150 1 A' (64) c' (table.map u32v) ∧ Le w w' := by
  refine enter Try.func138 rfl rfl ?_
  have L0 := Le.refl w
  refine WC.seq ?_
  refine WC.region ?_
  refine W.any (.assign rfl) rfl rfl rfl ?_
  refine W.nil ?_
  refine E.thenN ?_
  refine WC.seq ?_
  refine WC.region ?_
  refine W.ef rfl rfl rfl ?_
  refine Ef.buildSliceN (table.map u32v) Try.underlying147 el150 (by kernel_rfl) (all_u32v _) rfl (by decide) (by decide) ?_
  intro g1_0 w1_0 hg1_0 b1_0 h1_0
  have L1_0 := L0.trans h1_0
  refine W.any (.assign rfl) rfl rfl rfl ?_
  refine W.nil ?_
  refine E.thenN ?_
  refine WC.ret ?_
  refine E.ret1 rfl rfl ?_
  exact ⟨_, _, rfl, b1_0.own (s := 1) (n := 64) hg1_0 rfl (by unfold maxLen; omega), L1_0⟩

theorem rwords_ok {A : Option Addr} {n c : Nat} {b : List Byte} (w : World) (hS : Sb w A n b) (hn : n = 64) : Calls Try.prog 137 #[.slice A n c] w fun e w' => ∃ A' c', e = .returned (.slice A' (64) c') ∧ Own w' w.heap.size 150 1 A' (64) c' ((sched b).map u32v) ∧ Le w w' := by
  have hbl := hS.len
  refine enter Try.func137 rfl rfl ?_
  have L0 := Le.refl w
  refine WC.seq ?_
  refine WC.region ?_
  refine W.any (.assign rfl) rfl rfl rfl ?_
  refine W.nil ?_
  refine E.thenN ?_
  refine WC.seq ?_
  refine WC.region ?_
  refine W.any (.assign rfl) rfl rfl rfl ?_
  refine W.nil ?_
  refine E.thenN ?_
  refine WC.seq ?_
  refine WC.seq ?_
  refine WC.region ?_
  refine W.any (.assign rfl) rfl rfl rfl ?_
  refine W.nil ?_
  refine E.thenN ?_
  refine WC.block ?_
  refine WC.loop (ι := Nat × Option Addr × Nat) (fun ⟨k, A1, c1⟩ => [(0, .slice A n c), (3, .slice A1 k c1), (4, .int .i64 (k : Int))]) (fun ⟨k, A1, c1⟩ wl => k ≤ 16 ∧ Le w wl ∧ Own wl w.heap.size 150 1 A1 k c1 ((schedTo b k).map u32v)) (fun ⟨k, A1, c1⟩ => 16 - k) (0, none, 0) ?_ ?_ ?_
  · exact .cons rfl (.cons rfl (.cons rfl (.nil _)))
  · exact ⟨by omega, L0, Own.empty _ _ _ _ _⟩
  · rintro ⟨k, A1, c1⟩ wl ⟨hk, Ll, ol⟩
    refine WC.seq ?_
    refine WC.seq ?_
    refine WC.region ?_
    refine W.any (.move rfl) rfl rfl rfl ?_
    refine W.any (.lss rfl rfl) rfl rfl rfl ?_
    refine W.nil ?_
    refine E.thenN ?_
    refine WC.cond rfl (fun c0 => ?_) (fun c0 => ?_)
    · refine WC.skip ?_
      refine E.thenN ?_
      refine WC.seq ?_
      refine WC.block ?_
      refine WC.draw [0, 1, 2, 3, 4, 5, 6, 7, 8, 9, 10, 11, 12, 13, 14, 15, 16, 17, 18, 19, 20, 21, 22, 23, 24, 25, 26, 27, 28, 29, 30, 31, 32, 33, 34, 35, 36] mixed (by kernel_rfl) ?_
      intro w5 d5
      have L5 := Ll.trans d5
      refine G.any rfl rfl (.move rfl) rfl rfl rfl ?_
      refine G.any rfl rfl (.move rfl) rfl rfl rfl ?_
      refine G.any rfl rfl (.move rfl) rfl rfl rfl ?_
      refine G.any rfl rfl (.mul rfl rfl (by omega)) rfl rfl rfl ?_
      refine G.any rfl rfl (.idxS1 (4 * k) Try.underlying24 sz5 rfl rfl (hS.isSome (by omega)) (by omega) (by omega)) rfl rfl rfl ?_
      refine G.rd rfl rfl (.loadS na5 rfl (hS.le L5) (getb b (by omega))) rfl rfl rfl ?_
      refine G.rd rfl rfl (.u8to32 (isS Try.underlying5) Try.underlying150 rfl) rfl rfl rfl ?_
      refine G.any rfl rfl (.shl32 24 rfl rfl rfl (by decide)) rfl rfl rfl ?_
      refine G.any rfl rfl (.move rfl) rfl rfl rfl ?_
      refine G.any rfl rfl (.move rfl) rfl rfl rfl ?_
      refine G.any rfl rfl (.mul rfl rfl (by omega)) rfl rfl rfl ?_
      refine G.any rfl rfl (.add rfl rfl (by omega)) rfl rfl rfl ?_
      refine G.any rfl rfl (.idxS1 (4 * k + 1) Try.underlying24 sz5 rfl rfl (hS.isSome (by omega)) (by omega) (by omega)) rfl rfl rfl ?_
      refine G.rd rfl rfl (.loadS na5 rfl (hS.le L5) (getb b (by omega))) rfl rfl rfl ?_
      refine G.rd rfl rfl (.u8to32 (isS Try.underlying5) Try.underlying150 rfl) rfl rfl rfl ?_
      refine G.any rfl rfl (.shl32 16 rfl rfl rfl (by decide)) rfl rfl rfl ?_
      refine G.any rfl rfl (.or32 rfl rfl) rfl rfl rfl ?_
      refine G.any rfl rfl (.move rfl) rfl rfl rfl ?_
      refine G.any rfl rfl (.move rfl) rfl rfl rfl ?_
      refine G.any rfl rfl (.mul rfl rfl (by omega)) rfl rfl rfl ?_
      refine G.any rfl rfl (.add rfl rfl (by omega)) rfl rfl rfl ?_
      refine G.any rfl rfl (.idxS1 (4 * k + 2) Try.underlying24 sz5 rfl rfl (hS.isSome (by omega)) (by omega) (by omega)) rfl rfl rfl ?_
      refine G.rd rfl rfl (.loadS na5 rfl (hS.le L5) (getb b (by omega))) rfl rfl rfl ?_
      refine G.rd rfl rfl (.u8to32 (isS Try.underlying5) Try.underlying150 rfl) rfl rfl rfl ?_
      refine G.any rfl rfl (.shl32 8 rfl rfl rfl (by decide)) rfl rfl rfl ?_
      refine G.any rfl rfl (.or32 rfl rfl) rfl rfl rfl ?_
      refine G.any rfl rfl (.move rfl) rfl rfl rfl ?_
      refine G.any rfl rfl (.move rfl) rfl rfl rfl ?_
      refine G.any rfl rfl (.mul rfl rfl (by omega)) rfl rfl rfl ?_
      refine G.any rfl rfl (.add rfl rfl (by omega)) rfl rfl rfl ?_
      refine G.any rfl rfl (.idxS1 (4 * k + 3) Try.underlying24 sz5 rfl rfl (hS.isSome (by omega)) (by omega) (by omega)) rfl rfl rfl ?_
      refine G.rd rfl rfl (.loadS na5 rfl (hS.le L5) (getb b (by omega))) rfl rfl rfl ?_
      refine G.rd rfl rfl (.u8to32 (isS Try.underlying5) Try.underlying150 rfl) rfl rfl rfl ?_
      refine G.any rfl rfl (.or32 rfl rfl) rfl rfl rfl ?_
      refine G.ef rfl rfl rfl rfl rfl ?_
      refine Ef.buildSlice1 Try.underlying147 el150 rfl rfl ?_
      intro g5_34 w5_34 hg5_34 b5_34 h5_34
      have L5_34 := L5.trans h5_34
      refine ⟨fun _ => h5_34, ?_⟩
      refine G.ef rfl rfl rfl rfl rfl ?_
      refine Ef.append Try.underlying147 el150 rfl ((ol.le d5).le h5_34) rfl (b5_34.src1 Try.underlying147 rfl) (by omega) (by unfold maxLen; omega) (L5_34.size) ?_
      intro A5_35 c5_35 w5_35 o5_35 h5_35 at5_35
      have L5_35 : Le w w5_35 := L5_34.then_ h5_35 (fun q hq => (ol.row hq).1)
      refine ⟨fun h => absurd h (ne_true_of_eq_false (by kernel_rfl)), ?_⟩
      refine G.any rfl rfl (.assign rfl) rfl rfl rfl ?_
      refine G.nil ?_
      refine E.blkN ?_
      refine E.thenN ?_
      refine WC.region ?_
      refine W.any (.move rfl) rfl rfl rfl ?_
      refine W.any (.add rfl rfl (by omega)) rfl rfl rfl ?_
      refine W.any (.assign rfl) rfl rfl rfl ?_
      refine W.nil ?_
      refine E.again (k + 1, A5_35, c5_35) (.cons rfl (.cons rfl (.cons rfl (.nil _)))) ?_ ?_
      · exact ⟨by omega, L5_35, o5_35.cast rfl (by rw [schedTo, if_pos (by omega), be32_drop]; simp)⟩
      · first | omega | (simp only []; omega)
    · have hk16 : k = 16 := by omega
      subst hk16
      refine WC.exit ?_
      refine E.thenX ?_
      refine E.thenX ?_
      refine E.blkH ?_
      refine E.thenN ?_
      refine WC.seq ?_
      refine WC.seq ?_
      refine WC.region ?_
      refine W.any (.assign rfl) rfl rfl rfl ?_
      refine W.nil ?_
      refine E.thenN ?_
      refine WC.block ?_
      refine WC.loop (ι := Nat × Option Addr × Nat) (fun ⟨k, A1, c1⟩ => [(3, .slice A1 k c1), (5, .int .i64 (k : Int))]) (fun ⟨k, A1, c1⟩ wm => 16 ≤ k ∧ k ≤ 64 ∧ Le w wm ∧ Own wm w.heap.size 150 1 A1 k c1 ((schedTo b k).map u32v)) (fun ⟨k, A1, c1⟩ => 64 - k) (16, A1, c1) ?_ ?_ ?_
      · exact .cons rfl (.cons rfl (.nil _))
      · exact ⟨by omega, by omega, Ll, ol⟩
      · rintro ⟨k, A1, c1⟩ wm ⟨hk0, hk, Lm, ol⟩
        have hsl := schedTo_length b k
        refine WC.seq ?_
        refine WC.seq ?_
        refine WC.region ?_
        refine W.any (.move rfl) rfl rfl rfl ?_
        refine W.any (.lss rfl rfl) rfl rfl rfl ?_
        refine W.nil ?_
        refine E.thenN ?_
        refine WC.cond rfl (fun c1 => ?_) (fun c1 => ?_)
        · refine WC.skip ?_
          refine E.thenN ?_
          refine WC.seq ?_
          refine WC.block ?_
          refine WC.seq ?_
          refine WC.region ?_
          refine W.any (.move rfl) rfl rfl rfl ?_
          refine W.any (.move rfl) rfl rfl rfl ?_
          refine W.any (.sub rfl rfl (by omega)) rfl rfl rfl ?_
          refine W.any (.idxS1 (k - 15) Try.underlying147 sz150 rfl rfl (ol.sl.isSome (j := 0) (by omega) (by decide)) (by omega) (by omega)) rfl rfl rfl ?_
          refine W.rd (.loadS na150 rfl (ol.sl) (getw _ (by omega))) rfl rfl rfl ?_
          refine W.any (.assign rfl) rfl rfl rfl ?_
          refine W.nil ?_
          refine E.thenN ?_
          refine WC.seq ?_
          refine WC.region ?_
          refine W.any (.move rfl) rfl rfl rfl ?_
          refine W.any (.move rfl) rfl rfl rfl ?_
          refine W.any (.sub rfl rfl (by omega)) rfl rfl rfl ?_
          refine W.any (.idxS1 (k - 2) Try.underlying147 sz150 rfl rfl (ol.sl.isSome (j := 0) (by omega) (by decide)) (by omega) (by omega)) rfl rfl rfl ?_
          refine W.rd (.loadS na150 rfl (ol.sl) (getw _ (by omega))) rfl rfl rfl ?_
          refine W.any (.assign rfl) rfl rfl rfl ?_
          refine W.nil ?_
          refine E.thenN ?_
          refine WC.seq ?_
          refine WC.region ?_
          refine W.any (.move rfl) rfl rfl rfl ?_
          refine W.ef rfl rfl rfl ?_
          refine Ef.call go139 rfl rfl (rturn_ok _ 7 wm (by omega)) ?_
          rintro _ w11_1 ⟨rfl, h11_1⟩
          refine ⟨_, rfl, ?_⟩
          have L11_1 := Lm.trans h11_1
          refine W.any (.move rfl) rfl rfl rfl ?_
          refine W.ef rfl rfl rfl ?_
          refine Ef.call go139 rfl rfl (rturn_ok _ 18 w11_1 (by omega)) ?_
          rintro _ w11_3 ⟨rfl, h11_3⟩
          refine ⟨_, rfl, ?_⟩
          have L11_3 := L11_1.trans h11_3
          refine W.any (.xor32 rfl rfl) rfl rfl rfl ?_
          refine W.any (.move rfl) rfl rfl rfl ?_
          refine W.any (.shr32 3 rfl rfl rfl (by decide)) rfl rfl rfl ?_
          refine W.any (.xor32 rfl rfl) rfl rfl rfl ?_
          refine W.any (.assign rfl) rfl rfl rfl ?_
          refine W.nil ?_
          refine E.thenN ?_
          refine WC.seq ?_
          refine WC.region ?_
          refine W.any (.move rfl) rfl rfl rfl ?_
          refine W.ef rfl rfl rfl ?_
          refine Ef.call go139 rfl rfl (rturn_ok _ 17 w11_3 (by omega)) ?_
          rintro _ w12_1 ⟨rfl, h12_1⟩
          refine ⟨_, rfl, ?_⟩
          have L12_1 := L11_3.trans h12_1
          refine W.any (.move rfl) rfl rfl rfl ?_
          refine W.ef rfl rfl rfl ?_
          refine Ef.call go139 rfl rfl (rturn_ok _ 19 w12_1 (by omega)) ?_
          rintro _ w12_3 ⟨rfl, h12_3⟩
          refine ⟨_, rfl, ?_⟩
          have L12_3 := L12_1.trans h12_3
          refine W.any (.xor32 rfl rfl) rfl rfl rfl ?_
          refine W.any (.move rfl) rfl rfl rfl ?_
          refine W.any (.shr32 10 rfl rfl rfl (by decide)) rfl rfl rfl ?_
          refine W.any (.xor32 rfl rfl) rfl rfl rfl ?_
          refine W.any (.assign rfl) rfl rfl rfl ?_
          refine W.nil ?_
          refine E.thenN ?_
          refine WC.draw [0, 1, 2, 3, 4, 5, 6, 7, 8, 9, 10, 11, 12, 13, 14, 15, 16, 17, 18] mixed (by kernel_rfl) ?_
          intro w13 d13
          have L13 := L12_3.trans d13
          have o13 := ol.le (h11_1.trans (h11_3.trans (h12_1.trans (h12_3.trans d13))))
          refine G.any rfl rfl (.move rfl) rfl rfl rfl ?_
          refine G.any rfl rfl (.move rfl) rfl rfl rfl ?_
          refine G.any rfl rfl (.move rfl) rfl rfl rfl ?_
          refine G.any rfl rfl (.sub rfl rfl (by omega)) rfl rfl rfl ?_
          refine G.any rfl rfl (.idxS1 (k - 16) Try.underlying147 sz150 rfl rfl (ol.sl.isSome (j := 0) (by omega) (by decide)) (by omega) (by omega)) rfl rfl rfl ?_
          refine G.rd rfl rfl (.loadS na150 rfl (o13.sl) (getw _ (by omega))) rfl rfl rfl ?_
          refine G.any rfl rfl (.move rfl) rfl rfl rfl ?_
          refine G.any rfl rfl (.add32 rfl rfl) rfl rfl rfl ?_
          refine G.any rfl rfl (.move rfl) rfl rfl rfl ?_
          refine G.any rfl rfl (.move rfl) rfl rfl rfl ?_
          refine G.any rfl rfl (.sub rfl rfl (by omega)) rfl rfl rfl ?_
          refine G.any rfl rfl (.idxS1 (k - 7) Try.underlying147 sz150 rfl rfl (ol.sl.isSome (j := 0) (by omega) (by decide)) (by omega) (by omega)) rfl rfl rfl ?_
          refine G.rd rfl rfl (.loadS na150 rfl (o13.sl) (getw _ (by omega))) rfl rfl rfl ?_
          refine G.any rfl rfl (.add32 rfl rfl) rfl rfl rfl ?_
          refine G.any rfl rfl (.move rfl) rfl rfl rfl ?_
          refine G.any rfl rfl (.add32 rfl rfl) rfl rfl rfl ?_
          refine G.ef rfl rfl rfl rfl rfl ?_
          refine Ef.buildSlice1 Try.underlying147 el150 rfl rfl ?_
          intro g13_16 w13_16 hg13_16 b13_16 h13_16
          have L13_16 := L13.trans h13_16
          refine ⟨fun _ => h13_16, ?_⟩
          refine G.ef rfl rfl rfl rfl rfl ?_
          refine Ef.append Try.underlying147 el150 rfl (o13.le h13_16) rfl (b13_16.src1 Try.underlying147 rfl) (by omega) (by unfold maxLen; omega) (L13_16.size) ?_
          intro A13_17 c13_17 w13_17 o13_17 h13_17 at13_17
          have L13_17 : Le w w13_17 := L13_16.then_ h13_17 (fun q hq => (ol.row hq).1)
          refine ⟨fun h => absurd h (ne_true_of_eq_false (by kernel_rfl)), ?_⟩
          refine G.any rfl rfl (.assign rfl) rfl rfl rfl ?_
          refine G.nil ?_
          refine E.blkN ?_
          refine E.thenN ?_
          refine WC.region ?_
          refine W.any (.move rfl) rfl rfl rfl ?_
          refine W.any (.add rfl rfl (by omega)) rfl rfl rfl ?_
          refine W.any (.assign rfl) rfl rfl rfl ?_
          refine W.nil ?_
          refine E.again (k + 1, A13_17, c13_17) (.cons rfl (.cons rfl (.nil _))) ?_ ?_
          · exact ⟨by omega, by omega, L13_17, o13_17.cast rfl (by rw [schedTo, if_neg (by omega), nextWord]; simp)⟩
          · first | omega | (simp only []; omega)
        · have hk64 : k = 64 := by omega
          subst hk64
          refine WC.exit ?_
          refine E.thenX ?_
          refine E.thenX ?_
          refine E.blkH ?_
          refine E.thenN ?_
          refine WC.seq ?_
          refine WC.region ?_
          refine W.any (.move rfl) rfl rfl rfl ?_
          refine W.any (.assign rfl) rfl rfl rfl ?_
          refine W.nil ?_
          refine E.thenN ?_
          refine WC.ret ?_
          refine E.ret1 rfl rfl ?_
          exact ⟨_, _, rfl, ol, Lm⟩

set_option maxHeartbeats 1000000 in
theorem rblock_ok {A Ab : Option Addr} {c nb cb : Nat} {b : List Byte} {h : List Word} (w : World) (hl : h.length = 8) (hH : Sl w 1 A 8 (h.map u32v)) (hS : Sb w Ab nb b) (hn : nb = 64) : Calls Try.prog 126 #[.slice A 8 c, .slice Ab nb cb] w fun e w' => ∃ A' c', e = .returned (.slice A' (8) c') ∧ Own w' w.heap.size 150 1 A' (8) c' ((mix h b).map u32v) ∧ Le w w' := by
  have hsl : (sched b).length = 64 := schedTo_length b 64
  unfold mix
  refine enter Try.func126 rfl rfl ?_
  have L0 := Le.refl w
  refine WC.seq ?_
  refine WC.region ?_
  refine W.any (.assign rfl) rfl rfl rfl ?_
  refine W.nil ?_
  refine E.thenN ?_
  refine WC.seq ?_
  refine WC.region ?_
  refine W.any (.move rfl) rfl rfl rfl ?_
  refine W.ef rfl rfl rfl ?_
  refine Ef.call go137 rfl rfl (rwords_ok w (hS.le L0) hn) ?_
  rintro _ w1_1 ⟨A5, c5, rfl, o5, h1_1⟩
  refine ⟨_, rfl, ?_⟩
  have L1_1 := L0.trans h1_1
  refine W.any (.assign rfl) rfl rfl rfl ?_
  refine W.nil ?_
  refine E.thenN ?_
  refine WC.seq ?_
  refine WC.region ?_
  refine W.ef rfl rfl rfl ?_
  refine Ef.call go138 rfl rfl (radds_ok w1_1) ?_
  rintro _ w2_0 ⟨A6, c6, rfl, o6, h2_0⟩
  refine ⟨_, rfl, ?_⟩
  have L2_0 := L1_1.trans h2_0
  refine W.any (.assign rfl) rfl rfl rfl ?_
  refine W.nil ?_
  refine E.thenN ?_
  refine WC.seq ?_
  refine WC.region ?_
  refine W.ef rfl rfl rfl ?_
  refine Ef.buildSlice0 Try.underlying147 el150 ?_
  intro g3_0 w3_0 hg3_0 b3_0 h3_0
  have L3_0 := L2_0.trans h3_0
  refine W.any (.move rfl) rfl rfl rfl ?_
  refine W.ef rfl rfl rfl ?_
  refine Ef.append Try.underlying147 el150 rfl (Own.empty w3_0 w.heap.size 150 1 _) rfl ((hH.le L3_0).src Try.underlying147 (by decide) _ (all_u32v _)) (by omega) (by unfold maxLen; omega) (L3_0.size) ?_
  intro A3_2 c3_2 w3_2 o3_2 h3_2 at3_2
  have L3_2 : Le w w3_2 := L3_0.then_ h3_2 (fun q hq => by rw [rowOf_zero] at hq; cases hq)
  have s5 := ((o5.le (h2_0.trans h3_0)).ch h3_2 (fun q hq => by rw [rowOf_zero] at hq; cases hq)).sl
  have s6 := ((o6.le h3_0).ch h3_2 (fun q hq => by rw [rowOf_zero] at hq; cases hq)).sl
  refine W.any (.assign rfl) rfl rfl rfl ?_
  refine W.nil ?_
  refine E.thenN ?_
  refine WC.seq ?_
  refine WC.seq ?_
  refine WC.region ?_
  refine W.any (.assign rfl) rfl rfl rfl ?_
  refine W.nil ?_
  refine E.thenN ?_
  refine WC.block ?_
  refine WC.loop (ι := Nat × Option Addr × Nat) (fun ⟨i, A7, c7⟩ => [(0, .slice A 8 c), (5, .slice A5 64 c5), (6, .slice A6 64 c6), (7, .slice A7 8 c7), (8, .int .i64 (i : Int))]) (fun ⟨i, A7, c7⟩ wl => i ≤ 64 ∧ Le w3_2 wl ∧ Own wl w.heap.size 150 1 A7 8 c7 ((roundsTo h (sched b) i).map u32v)) (fun ⟨i, A7, c7⟩ => 64 - i) (0, A3_2, c3_2) ?_ ?_ ?_
  · exact .cons rfl (.cons rfl (.cons rfl (.cons rfl (.cons rfl (.nil _)))))
  · exact ⟨by omega, Le.refl _, o3_2.cast rfl (List.nil_append _)⟩
  · rintro ⟨i, A7, c7⟩ wl ⟨hi, Ll, ov⟩
    have hvl := roundsTo_length h (sched b) hl i
    obtain ⟨v, hv⟩ : ∃ v, v = roundsTo h (sched b) i := ⟨_, rfl⟩
    rw [← hv] at ov hvl
    have hv0 : A7.isSome = true := ov.sl.isSome (j := 0) (by omega) (by decide)
    refine WC.seq ?_
    refine WC.seq ?_
    refine WC.region ?_
    refine W.any (.move rfl) rfl rfl rfl ?_
    refine W.any (.lss rfl rfl) rfl rfl rfl ?_
    refine W.nil ?_
    refine E.thenN ?_
    refine WC.cond rfl (fun c0 => ?_) (fun c0 => ?_)
    · refine WC.skip ?_
      refine E.thenN ?_
      refine WC.seq ?_
      refine WC.block ?_
      refine WC.seq ?_
      refine WC.draw [0, 1, 2, 4, 5, 6, 9, 10, 11, 3, 7, 8, 12, 13, 14] mixed (by kernel_rfl) ?_
      intro w7 d7
      have L7 := (L3_2.trans Ll).trans d7
      have v7 := (ov.le d7).sl
      refine G.any rfl rfl (.move rfl) rfl rfl rfl ?_
      refine G.any rfl rfl (.idxS1 (4) Try.underlying147 sz150 rfl rfl (hv0) (rfl) (by decide)) rfl rfl rfl ?_
      refine G.rd rfl rfl (.loadS na150 rfl (v7) (getw _ (by omega))) rfl rfl rfl ?_
      refine G.any rfl rfl (.move rfl) rfl rfl rfl ?_
      refine G.any rfl rfl (.idxS1 (4) Try.underlying147 sz150 rfl rfl (hv0) (rfl) (by decide)) rfl rfl rfl ?_
      refine G.rd rfl rfl (.loadS na150 rfl (v7) (getw _ (by omega))) rfl rfl rfl ?_
      refine G.any rfl rfl (.move rfl) rfl rfl rfl ?_
      refine G.any rfl rfl (.idxS1 (4) Try.underlying147 sz150 rfl rfl (hv0) (rfl) (by decide)) rfl rfl rfl ?_
      refine G.rd rfl rfl (.loadS na150 rfl (v7) (getw _ (by omega))) rfl rfl rfl ?_
      refine G.ef rfl rfl rfl rfl rfl ?_
      refine Ef.call go139 rfl rfl (rturn_ok _ 6 w7 (by omega)) ?_
      rintro _ w7_3 ⟨rfl, h7_3⟩
      refine ⟨_, rfl, ?_⟩
      have L7_3 := L7.trans h7_3
      refine ⟨fun _ => h7_3, ?_⟩
      refine G.ef rfl rfl rfl rfl rfl ?_
      refine Ef.call go139 rfl rfl (rturn_ok _ 11 w7_3 (by omega)) ?_
      rintro _ w7_7 ⟨rfl, h7_7⟩
      refine ⟨_, rfl, ?_⟩
      have L7_7 := L7_3.trans h7_7
      refine ⟨fun _ => h7_7, ?_⟩
      refine G.any rfl rfl (.xor32 rfl rfl) rfl rfl rfl ?_
      refine G.ef rfl rfl rfl rfl rfl ?_
      refine Ef.call go139 rfl rfl (rturn_ok _ 25 w7_7 (by omega)) ?_
      rintro _ w7_12 ⟨rfl, h7_12⟩
      refine ⟨_, rfl, ?_⟩
      have L7_12 := L7_7.trans h7_12
      refine ⟨fun _ => h7_12, ?_⟩
      refine G.any rfl rfl (.xor32 rfl rfl) rfl rfl rfl ?_
      refine G.any rfl rfl (.assign rfl) rfl rfl rfl ?_
      refine G.nil ?_
      refine E.thenN ?_
      refine WC.seq ?_
      refine WC.draw [0, 1, 2, 3, 4, 5, 6, 7, 8, 9, 10, 11, 12, 13, 14, 15, 16] mixed (by kernel_rfl) ?_
      intro w8 d8
      have L8 := L7_12.trans d8
      have LL := d7.trans (h7_3.trans (h7_7.trans (h7_12.trans d8)))
      have v8 := (ov.le LL).sl
      refine G.any rfl rfl (.move rfl) rfl rfl rfl ?_
      refine G.any rfl rfl (.idxS1 (4) Try.underlying147 sz150 rfl rfl (hv0) (rfl) (by decide)) rfl rfl rfl ?_
      refine G.rd rfl rfl (.loadS na150 rfl (v8) (getw _ (by omega))) rfl rfl rfl ?_
      refine G.any rfl rfl (.move rfl) rfl rfl rfl ?_
      refine G.any rfl rfl (.idxS1 (5) Try.underlying147 sz150 rfl rfl (hv0) (rfl) (by decide)) rfl rfl rfl ?_
      refine G.rd rfl rfl (.loadS na150 rfl (v8) (getw _ (by omega))) rfl rfl rfl ?_
      refine G.any rfl rfl (.and32 rfl rfl) rfl rfl rfl ?_
      refine G.any rfl rfl (.move rfl) rfl rfl rfl ?_
      refine G.any rfl rfl (.idxS1 (4) Try.underlying147 sz150 rfl rfl (hv0) (rfl) (by decide)) rfl rfl rfl ?_
      refine G.rd rfl rfl (.loadS na150 rfl (v8) (getw _ (by omega))) rfl rfl rfl ?_
      refine G.any rfl rfl (.com32 rfl) rfl rfl rfl ?_
      refine G.any rfl rfl (.move rfl) rfl rfl rfl ?_
      refine G.any rfl rfl (.idxS1 (6) Try.underlying147 sz150 rfl rfl (hv0) (rfl) (by decide)) rfl rfl rfl ?_
      refine G.rd rfl rfl (.loadS na150 rfl (v8) (getw _ (by omega))) rfl rfl rfl ?_
      refine G.any rfl rfl (.and32 rfl rfl) rfl rfl rfl ?_
      refine G.any rfl rfl (.xor32 rfl rfl) rfl rfl rfl ?_
      refine G.any rfl rfl (.assign rfl) rfl rfl rfl ?_
      refine G.nil ?_
      refine E.thenN ?_
      refine WC.seq ?_
      refine WC.draw [0, 1, 2, 3, 4, 5, 6, 7, 8, 9, 10, 11, 12, 13, 14, 15, 16, 17] mixed (by kernel_rfl) ?_
      intro w9 d9
      have L9 := L8.trans d9
      have LL := LL.trans d9
      have v9 := (ov.le LL).sl
      refine G.any rfl rfl (.move rfl) rfl rfl rfl ?_
      refine G.any rfl rfl (.idxS1 (7) Try.underlying147 sz150 rfl rfl (hv0) (rfl) (by decide)) rfl rfl rfl ?_
      refine G.rd rfl rfl (.loadS na150 rfl (v9) (getw _ (by omega))) rfl rfl rfl ?_
      refine G.any rfl rfl (.move rfl) rfl rfl rfl ?_
      refine G.any rfl rfl (.add32 rfl rfl) rfl rfl rfl ?_
      refine G.any rfl rfl (.move rfl) rfl rfl rfl ?_
      refine G.any rfl rfl (.add32 rfl rfl) rfl rfl rfl ?_
      refine G.any rfl rfl (.move rfl) rfl rfl rfl ?_
      refine G.any rfl rfl (.move rfl) rfl rfl rfl ?_
      refine G.any rfl rfl (.idxS1 (i) Try.underlying147 sz150 rfl rfl (s6.isSome (j := 0) (by omega) (by decide)) (rfl) (by omega)) rfl rfl rfl ?_
      refine G.rd rfl rfl (.loadS na150 rfl (s6.le (Ll.trans LL)) (getw _ (by show i < 64; omega))) rfl rfl rfl ?_
      refine G.any rfl rfl (.add32 rfl rfl) rfl rfl rfl ?_
      refine G.any rfl rfl (.move rfl) rfl rfl rfl ?_
      refine G.any rfl rfl (.move rfl) rfl rfl rfl ?_
      refine G.any rfl rfl (.idxS1 (i) Try.underlying147 sz150 rfl rfl (s5.isSome (j := 0) (by omega) (by decide)) (rfl) (by omega)) rfl rfl rfl ?_
      refine G.rd rfl rfl (.loadS na150 rfl (s5.le (Ll.trans LL)) (getw _ (by rw [hsl]; omega))) rfl rfl rfl ?_
      refine G.any rfl rfl (.add32 rfl rfl) rfl rfl rfl ?_
      refine G.any rfl rfl (.assign rfl) rfl rfl rfl ?_
      refine G.nil ?_
      refine E.thenN ?_
      refine WC.seq ?_
      refine WC.draw [0, 1, 2, 4, 5, 6, 9, 10, 11, 3, 7, 8, 12, 13, 14] mixed (by kernel_rfl) ?_
      intro w10 d10
      have L10 := L9.trans d10
      have LL := LL.trans d10
      have v10 := (ov.le LL).sl
      refine G.any rfl rfl (.move rfl) rfl rfl rfl ?_
      refine G.any rfl rfl (.idxS1 (0) Try.underlying147 sz150 rfl rfl (hv0) (rfl) (by decide)) rfl rfl rfl ?_
      refine G.rd rfl rfl (.loadS na150 rfl (v10) (getw _ (by omega))) rfl rfl rfl ?_
      refine G.any rfl rfl (.move rfl) rfl rfl rfl ?_
      refine G.any rfl rfl (.idxS1 (0) Try.underlying147 sz150 rfl rfl (hv0) (rfl) (by decide)) rfl rfl rfl ?_
      refine G.rd rfl rfl (.loadS na150 rfl (v10) (getw _ (by omega))) rfl rfl rfl ?_
      refine G.any rfl rfl (.move rfl) rfl rfl rfl ?_
      refine G.any rfl rfl (.idxS1 (0) Try.underlying147 sz150 rfl rfl (hv0) (rfl) (by decide)) rfl rfl rfl ?_
      refine G.rd rfl rfl (.loadS na150 rfl (v10) (getw _ (by omega))) rfl rfl rfl ?_
      refine G.ef rfl rfl rfl rfl rfl ?_
      refine Ef.call go139 rfl rfl (rturn_ok _ 2 w10 (by omega)) ?_
      rintro _ w10_3 ⟨rfl, h10_3⟩
      refine ⟨_, rfl, ?_⟩
      have L10_3 := L10.trans h10_3
      refine ⟨fun _ => h10_3, ?_⟩
      refine G.ef rfl rfl rfl rfl rfl ?_
      refine Ef.call go139 rfl rfl (rturn_ok _ 13 w10_3 (by omega)) ?_
      rintro _ w10_7 ⟨rfl, h10_7⟩
      refine ⟨_, rfl, ?_⟩
      have L10_7 := L10_3.trans h10_7
      refine ⟨fun _ => h10_7, ?_⟩
      refine G.any rfl rfl (.xor32 rfl rfl) rfl rfl rfl ?_
      refine G.ef rfl rfl rfl rfl rfl ?_
      refine Ef.call go139 rfl rfl (rturn_ok _ 22 w10_7 (by omega)) ?_
      rintro _ w10_12 ⟨rfl, h10_12⟩
      refine ⟨_, rfl, ?_⟩
      have L10_12 := L10_7.trans h10_12
      refine ⟨fun _ => h10_12, ?_⟩
      refine G.any rfl rfl (.xor32 rfl rfl) rfl rfl rfl ?_
      refine G.any rfl rfl (.assign rfl) rfl rfl rfl ?_
      refine G.nil ?_
      refine E.thenN ?_
      refine WC.seq ?_
      refine WC.draw [0, 1, 2, 3, 4, 5, 6, 7, 8, 9, 10, 11, 12, 13, 14, 15, 16, 17, 18, 19, 20, 21, 22, 23] mixed (by kernel_rfl) ?_
      intro w11 d11
      have L11 := L10_12.trans d11
      have LL := LL.trans (h10_3.trans (h10_7.trans (h10_12.trans d11)))
      have v11 := (ov.le LL).sl
      refine G.any rfl rfl (.move rfl) rfl rfl rfl ?_
      refine G.any rfl rfl (.idxS1 (0) Try.underlying147 sz150 rfl rfl (hv0) (rfl) (by decide)) rfl rfl rfl ?_
      refine G.rd rfl rfl (.loadS na150 rfl (v11) (getw _ (by omega))) rfl rfl rfl ?_
      refine G.any rfl rfl (.move rfl) rfl rfl rfl ?_
      refine G.any rfl rfl (.idxS1 (1) Try.underlying147 sz150 rfl rfl (hv0) (rfl) (by decide)) rfl rfl rfl ?_
      refine G.rd rfl rfl (.loadS na150 rfl (v11) (getw _ (by omega))) rfl rfl rfl ?_
      refine G.any rfl rfl (.and32 rfl rfl) rfl rfl rfl ?_
      refine G.any rfl rfl (.move rfl) rfl rfl rfl ?_
      refine G.any rfl rfl (.idxS1 (0) Try.underlying147 sz150 rfl rfl (hv0) (rfl) (by decide)) rfl rfl rfl ?_
      refine G.rd rfl rfl (.loadS na150 rfl (v11) (getw _ (by omega))) rfl rfl rfl ?_
      refine G.any rfl rfl (.move rfl) rfl rfl rfl ?_
      refine G.any rfl rfl (.idxS1 (2) Try.underlying147 sz150 rfl rfl (hv0) (rfl) (by decide)) rfl rfl rfl ?_
      refine G.rd rfl rfl (.loadS na150 rfl (v11) (getw _ (by omega))) rfl rfl rfl ?_
      refine G.any rfl rfl (.and32 rfl rfl) rfl rfl rfl ?_
      refine G.any rfl rfl (.xor32 rfl rfl) rfl rfl rfl ?_
      refine G.any rfl rfl (.move rfl) rfl rfl rfl ?_
      refine G.any rfl rfl (.idxS1 (1) Try.underlying147 sz150 rfl rfl (hv0) (rfl) (by decide)) rfl rfl rfl ?_
      refine G.rd rfl rfl (.loadS na150 rfl (v11) (getw _ (by omega))) rfl rfl rfl ?_
      refine G.any rfl rfl (.move rfl) rfl rfl rfl ?_
      refine G.any rfl rfl (.idxS1 (2) Try.underlying147 sz150 rfl rfl (hv0) (rfl) (by decide)) rfl rfl rfl ?_
      refine G.rd rfl rfl (.loadS na150 rfl (v11) (getw _ (by omega))) rfl rfl rfl ?_
      refine G.any rfl rfl (.and32 rfl rfl) rfl rfl rfl ?_
      refine G.any rfl rfl (.xor32 rfl rfl) rfl rfl rfl ?_
      refine G.any rfl rfl (.assign rfl) rfl rfl rfl ?_
      refine G.nil ?_
      refine E.thenN ?_
      refine WC.draw [0, 1, 2, 3, 4, 5, 6, 7, 8, 9, 10, 11, 12, 13, 14, 15, 16, 17, 18, 19, 20, 21, 22, 23, 24, 25, 26, 27, 28, 29] mixed (by kernel_rfl) ?_
      intro w12 d12
      have L12 := L11.trans d12
      have v12 := (ov.le (LL.trans d12)).sl
      refine G.any rfl rfl (.move rfl) rfl rfl rfl ?_
      refine G.any rfl rfl (.move rfl) rfl rfl rfl ?_
      refine G.any rfl rfl (.add32 rfl rfl) rfl rfl rfl ?_
      refine G.any rfl rfl (.move rfl) rfl rfl rfl ?_
      refine G.any rfl rfl (.add32 rfl rfl) rfl rfl rfl ?_
      refine G.any rfl rfl (.move rfl) rfl rfl rfl ?_
      refine G.any rfl rfl (.idxS1 (0) Try.underlying147 sz150 rfl rfl (hv0) (rfl) (by decide)) rfl rfl rfl ?_
      refine G.rd rfl rfl (.loadS na150 rfl (v12) (getw _ (by omega))) rfl rfl rfl ?_
      refine G.any rfl rfl (.move rfl) rfl rfl rfl ?_
      refine G.any rfl rfl (.idxS1 (1) Try.underlying147 sz150 rfl rfl (hv0) (rfl) (by decide)) rfl rfl rfl ?_
      refine G.rd rfl rfl (.loadS na150 rfl (v12) (getw _ (by omega))) rfl rfl rfl ?_
      refine G.any rfl rfl (.move rfl) rfl rfl rfl ?_
      refine G.any rfl rfl (.idxS1 (2) Try.underlying147 sz150 rfl rfl (hv0) (rfl) (by decide)) rfl rfl rfl ?_
      refine G.rd rfl rfl (.loadS na150 rfl (v12) (getw _ (by omega))) rfl rfl rfl ?_
      refine G.any rfl rfl (.move rfl) rfl rfl rfl ?_
      refine G.any rfl rfl (.idxS1 (3) Try.underlying147 sz150 rfl rfl (hv0) (rfl) (by decide)) rfl rfl rfl ?_
      refine G.rd rfl rfl (.loadS na150 rfl (v12) (getw _ (by omega))) rfl rfl rfl ?_
      refine G.any rfl rfl (.move rfl) rfl rfl rfl ?_
      refine G.any rfl rfl (.add32 rfl rfl) rfl rfl rfl ?_
      refine G.any rfl rfl (.move rfl) rfl rfl rfl ?_
      refine G.any rfl rfl (.idxS1 (4) Try.underlying147 sz150 rfl rfl (hv0) (rfl) (by decide)) rfl rfl rfl ?_
      refine G.rd rfl rfl (.loadS na150 rfl (v12) (getw _ (by omega))) rfl rfl rfl ?_
      refine G.any rfl rfl (.move rfl) rfl rfl rfl ?_
      refine G.any rfl rfl (.idxS1 (5) Try.underlying147 sz150 rfl rfl (hv0) (rfl) (by decide)) rfl rfl rfl ?_
      refine G.rd rfl rfl (.loadS na150 rfl (v12) (getw _ (by omega))) rfl rfl rfl ?_
      refine G.any rfl rfl (.move rfl) rfl rfl rfl ?_
      refine G.any rfl rfl (.idxS1 (6) Try.underlying147 sz150 rfl rfl (hv0) (rfl) (by decide)) rfl rfl rfl ?_
      refine G.rd rfl rfl (.loadS na150 rfl (v12) (getw _ (by omega))) rfl rfl rfl ?_
      refine G.ef rfl rfl rfl rfl rfl ?_
      refine Ef.buildSliceN [_, _, _, _, _, _, _, _] Try.underlying147 el150 rfl (one8 _ _ _ _ _ _ _ _) rfl (by decide) (by decide) ?_
      intro g12_28 w12_28 hg12_28 b12_28 h12_28
      have L12_28 := L12.trans h12_28
      refine ⟨fun _ => h12_28, ?_⟩
      refine G.any rfl rfl (.assign rfl) rfl rfl rfl ?_
      refine G.nil ?_
      refine E.blkN ?_
      refine E.thenN ?_
      refine WC.region ?_
      refine W.any (.move rfl) rfl rfl rfl ?_
      refine W.any (.add rfl rfl (by omega)) rfl rfl rfl ?_
      refine W.any (.assign rfl) rfl rfl rfl ?_
      refine W.nil ?_
      refine E.again (i + 1, _, _) (.cons rfl (.cons rfl (.cons rfl (.cons rfl (.cons rfl (.nil _)))))) ?_ ?_
      · exact ⟨by omega, Ll.trans (LL.trans (d12.trans h12_28)), (b12_28.own (s := 1) (n := 8) (Nat.le_trans L12.size hg12_28) rfl (by unfold maxLen; omega)).cast rfl (by rw [roundsTo, ← hv, stepW]; simp [choice_eq, most_eq])⟩
      · first | omega | (simp only []; omega)
    · rw [hv] at ov hvl
      have hi64 : i = 64 := by omega
      subst hi64
      obtain ⟨g7, rfl, hg7, _, _⟩ := ov.lit (by omega)
      refine WC.exit ?_
      refine E.thenX ?_
      refine E.thenX ?_
      refine E.blkH ?_
      refine E.thenN ?_
      refine WC.seq ?_
      refine WC.seq ?_
      refine WC.region ?_
      refine W.any (.assign rfl) rfl rfl rfl ?_
      refine W.nil ?_
      refine E.thenN ?_
      refine WC.block ?_
      refine WC.loop (ι := Nat) (fun j => [(0, .slice A 8 c), (7, .slice (some ⟨g7, 0, none⟩) 8 c7), (14, .int .i64 (j : Int))]) (fun j wm => j ≤ 8 ∧ Le w wm ∧ Own wm w.heap.size 150 1 (some ⟨g7, 0, none⟩) 8 c7 ((addTo (roundsTo h (sched b) 64) h j).map u32v)) (fun j => 8 - j) 0 ?_ ?_ ?_
      · exact .cons rfl (.cons rfl (.cons rfl (.nil _)))
      · exact ⟨by omega, (L3_2.trans Ll), ov.cast rfl (by rw [addTo_zero _ _ hvl])⟩
      · rintro j wm ⟨hj, Lm, ov⟩
        have hal := addTo_length (roundsTo h (sched b) 64) h j
        refine WC.seq ?_
        refine WC.seq ?_
        refine WC.region ?_
        refine W.any (.move rfl) rfl rfl rfl ?_
        refine W.any (.lss rfl rfl) rfl rfl rfl ?_
        refine W.nil ?_
        refine E.thenN ?_
        refine WC.cond rfl (fun c1 => ?_) (fun c1 => ?_)
        · refine WC.skip ?_
          refine E.thenN ?_
          refine WC.seq ?_
          refine WC.block ?_
          refine WC.draw [0, 1, 2, 3, 4, 5, 6, 7, 8, 9, 10, 11, 12] mixed (by kernel_rfl) ?_
          intro w16 d16
          have L16 := Lm.trans d16
          refine G.any rfl rfl (.move rfl) rfl rfl rfl ?_
          refine G.any rfl rfl (.move rfl) rfl rfl rfl ?_
          refine G.any rfl rfl (.move rfl) rfl rfl rfl ?_
          refine G.any rfl rfl (.move rfl) rfl rfl rfl ?_
          refine G.any rfl rfl (.idxS1 (j) Try.underlying147 sz150 rfl rfl (rfl) (rfl) (by omega)) rfl rfl rfl ?_
          refine G.rd rfl rfl (.loadS na150 rfl ((ov.le d16).sl) ((getw (addTo (roundsTo h (sched b) 64) h j) (k := j) (by omega)).trans (by rw [addTo_at _ _ _ _ (by omega), if_neg (by omega)]))) rfl rfl rfl ?_
          refine G.any rfl rfl (.move rfl) rfl rfl rfl ?_
          refine G.any rfl rfl (.move rfl) rfl rfl rfl ?_
          refine G.any rfl rfl (.idxS1 (j) Try.underlying147 sz150 rfl rfl (hH.isSome (j := 0) (by omega) (by decide)) (rfl) (by omega)) rfl rfl rfl ?_
          refine G.rd rfl rfl (.loadS na150 rfl (hH.le L16) (getw _ (by omega))) rfl rfl rfl ?_
          refine G.any rfl rfl (.add32 rfl rfl) rfl rfl rfl ?_
          refine G.any rfl rfl (.idxB1 (j) Try.underlying147 sz150 rfl rfl (rfl) (by omega)) rfl rfl rfl ?_
          refine G.ef0 rfl rfl rfl rfl ?_
          refine Ef.storeO sz150 rfl rfl (ov.le d16) (by omega) (rfl) ?_
          intro w16_12 o16_12 h16_12
          have L16_12 : Le w w16_12 := L16.then_ h16_12 (fun q hq => by cases hq; exact hg7)
          refine ⟨fun h => absurd h (ne_true_of_eq_false (by kernel_rfl)), ?_⟩
          refine G.nil ?_
          refine E.blkN ?_
          refine E.thenN ?_
          refine WC.region ?_
          refine W.any (.move rfl) rfl rfl rfl ?_
          refine W.any (.add rfl rfl (by omega)) rfl rfl rfl ?_
          refine W.any (.assign rfl) rfl rfl rfl ?_
          refine W.nil ?_
          refine E.again (j + 1) (.cons rfl (.cons rfl (.cons rfl (.nil _)))) ?_ ?_
          · exact ⟨by omega, L16_12, o16_12.cast rfl (by rw [← addTo_succ _ _ j (by omega)]; simp)⟩
          · first | omega | (simp only []; omega)
        · have hj8 : j = 8 := by omega
          subst hj8
          refine WC.exit ?_
          refine E.thenX ?_
          refine E.thenX ?_
          refine E.blkH ?_
          refine E.thenN ?_
          refine WC.seq ?_
          refine WC.region ?_
          refine W.any (.move rfl) rfl rfl rfl ?_
          refine W.any (.assign rfl) rfl rfl rfl ?_
          refine W.nil ?_
          refine E.thenN ?_
          refine WC.ret ?_
          refine E.ret1 rfl rfl ?_
          exact ⟨_, _, rfl, ov, Lm⟩

theorem rlong_ok (m : Nat) (w : World) (_hm : m < 18446744073709551616) : Calls Try.prog 102 #[.int .u64 (m : Int)] w fun e w' => ∃ A' c', e = .returned (.slice A' (8) c') ∧ Own w' w.heap.size 5 1 A' (8) c' ((be8 m).map u8v) ∧ Le w w' := by
  refine enter Try.func102 rfl rfl ?_
  have L0 := Le.refl w
  refine WC.seq ?_
  refine WC.region ?_
  refine W.any (.assign rfl) rfl rfl rfl ?_
  refine W.nil ?_
  refine E.thenN ?_
  refine WC.seq ?_
  refine WC.region ?_
  refine W.any (.assign rfl) rfl rfl rfl ?_
  refine W.nil ?_
  refine E.thenN ?_
  refine WC.seq ?_
  refine WC.seq ?_
  refine WC.region ?_
  refine W.any (.assign rfl) rfl rfl rfl ?_
  refine W.nil ?_
  refine E.thenN ?_
  refine WC.block ?_
  refine WC.loop (ι := Nat × Option Addr × Nat) (fun ⟨k, A1, c1⟩ => [(0, .int .u64 (m : Int)), (3, .slice A1 k c1), (4, .int .i64 (56 - 8 * (k : Int)))]) (fun ⟨k, A1, c1⟩ wl => k ≤ 8 ∧ Le w wl ∧ Own wl w.heap.size 5 1 A1 k c1 ((be8To m k).map u8v)) (fun ⟨k, A1, c1⟩ => 8 - k) (0, none, 0) ?_ ?_ ?_
  · exact .cons rfl (.cons rfl (.cons rfl (.nil _)))
  · exact ⟨by omega, L0, Own.empty _ _ _ _ _⟩
  · rintro ⟨k, A1, c1⟩ wl ⟨hk, Ll, ol⟩
    refine WC.seq ?_
    refine WC.seq ?_
    refine WC.region ?_
    refine W.any (.move rfl) rfl rfl rfl ?_
    refine W.any (.geq rfl rfl) rfl rfl rfl ?_
    refine W.nil ?_
    refine E.thenN ?_
    refine WC.cond rfl (fun c0 => ?_) (fun c0 => ?_)
    · refine WC.skip ?_
      refine E.thenN ?_
      refine WC.seq ?_
      refine WC.block ?_
      refine WC.region ?_
      refine W.any (.move rfl) rfl rfl rfl ?_
      refine W.any (.move rfl) rfl rfl rfl ?_
      refine W.any (.move rfl) rfl rfl rfl ?_
      refine W.any (.shrN m (56 - 8 * k) rfl rfl rfl (by omega) (by show 56 - 8 * k ≤ 64; omega)) rfl rfl rfl ?_
      refine W.rd (.toU8 (m >>> (56 - 8 * k)) (isS Try.underlying47) Try.underlying5 rfl rfl) rfl rfl rfl ?_
      refine W.ef rfl rfl rfl ?_
      refine Ef.buildSlice1 Try.underlying24 el5 rfl rfl ?_
      intro g5_5 w5_5 hg5_5 b5_5 h5_5
      have L5_5 := Ll.trans h5_5
      refine W.ef rfl rfl rfl ?_
      refine Ef.append Try.underlying24 el5 rfl (ol.le h5_5) rfl (b5_5.src1 Try.underlying24 rfl) (by omega) (by unfold maxLen; omega) (L5_5.size) ?_
      intro A5_6 c5_6 w5_6 o5_6 h5_6 at5_6
      have L5_6 : Le w w5_6 := L5_5.then_ h5_6 (fun q hq => (ol.row hq).1)
      refine W.any (.assign rfl) rfl rfl rfl ?_
      refine W.nil ?_
      refine E.blkN ?_
      refine E.thenN ?_
      refine WC.region ?_
      refine W.any (.move rfl) rfl rfl rfl ?_
      refine W.any (.sub rfl rfl (by omega)) rfl rfl rfl ?_
      refine W.any (.assign rfl) rfl rfl rfl ?_
      refine W.nil ?_
      refine E.again (k + 1, A5_6, c5_6) (.cons rfl (.cons rfl (.cons' rfl (int_eq (by omega)) (.nil _)))) ?_ ?_
      · exact ⟨by omega, L5_6, o5_6.cast rfl (by rw [be8To_succ m k (by omega)]; simp)⟩
      · first | omega | (simp only []; omega)
    · have hk8 : k = 8 := by omega
      subst hk8
      refine WC.exit ?_
      refine E.thenX ?_
      refine E.thenX ?_
      refine E.blkH ?_
      refine E.thenN ?_
      refine WC.seq ?_
      refine WC.region ?_
      refine W.any (.move rfl) rfl rfl rfl ?_
      refine W.any (.assign rfl) rfl rfl rfl ?_
      refine W.nil ?_
      refine E.thenN ?_
      refine WC.ret ?_
      refine E.ret1 rfl rfl ?_
      exact ⟨_, _, rfl, ol, Ll⟩

theorem rpadded_ok {A : Option Addr} {n c : Nat} {xs : List Byte} (w : World) (hS : Sb w A n xs) (hn : n ≤ 35184372088832) : Calls Try.prog 124 #[.slice A n c] w fun e w' => ∃ A' c', e = .returned (.slice A' (n + 1 + noughts n + 8) c') ∧ Own w' w.heap.size 5 1 A' (n + 1 + noughts n + 8) c' ((padB xs).map u8v) ∧ Le w w' := by
  have hl := hS.len
  have hk63 : noughts n ≤ 63 := by unfold noughts; omega
  refine enter Try.func124 rfl rfl ?_
  have L0 := Le.refl w
  refine WC.seq ?_
  refine WC.region ?_
  refine W.any (.assign rfl) rfl rfl rfl ?_
  refine W.nil ?_
  refine E.thenN ?_
  refine WC.seq ?_
  refine WC.region ?_
  refine W.ef rfl rfl rfl ?_
  refine Ef.buildSlice0 Try.underlying24 el5 ?_
  intro g1_0 w1_0 hg1_0 b1_0 h1_0
  have L1_0 := L0.trans h1_0
  refine W.any (.move rfl) rfl rfl rfl ?_
  refine W.ef rfl rfl rfl ?_
  refine Ef.append Try.underlying24 el5 rfl (Own.empty w1_0 w.heap.size 5 1 _) rfl ((hS.le L1_0).src Try.underlying24 _) (by omega) (by unfold maxLen; omega) (L1_0.size) ?_
  intro A1_2 c1_2 w1_2 o1_2 h1_2 at1_2
  have L1_2 : Le w w1_2 := L1_0.then_ h1_2 (fun q hq => by rw [rowOf_zero] at hq; cases hq)
  refine W.any (.assign rfl) rfl rfl rfl ?_
  refine W.nil ?_
  refine E.thenN ?_
  refine WC.seq ?_
  refine WC.region ?_
  refine W.any (.move rfl) rfl rfl rfl ?_
  refine W.ef rfl rfl rfl ?_
  refine Ef.buildSlice1 Try.underlying24 el5 rfl rfl ?_
  intro g2_1 w2_1 hg2_1 b2_1 h2_1
  have L2_1 := L1_2.trans h2_1
  refine W.ef rfl rfl rfl ?_
  refine Ef.append Try.underlying24 el5 rfl (o1_2.le h2_1) rfl (b2_1.src1 Try.underlying24 rfl) (by omega) (by unfold maxLen; omega) (L2_1.size) ?_
  intro A2_2 c2_2 w2_2 o2_2 h2_2 at2_2
  have L2_2 : Le w w2_2 := L2_1.then_ h2_2 (fun q hq => (o1_2.row hq).1)
  refine W.any (.assign rfl) rfl rfl rfl ?_
  refine W.nil ?_
  refine E.thenN ?_
  refine WC.seq ?_
  refine WC.block ?_
  refine WC.loop (ι := Nat × Option Addr × Nat) (fun ⟨k, A1, c1⟩ => [(0, .slice A n c), (3, .slice A1 (n + 1 + k) c1)]) (fun ⟨k, A1, c1⟩ wl => k ≤ noughts n ∧ Le w wl ∧ Own wl w.heap.size 5 1 A1 (n + 1 + k) c1 ((xs ++ [128] ++ List.replicate k 0).map u8v)) (fun ⟨k, A1, c1⟩ => 64 - k) (0, A2_2, c2_2) ?_ ?_ ?_
  · exact .cons rfl (.cons' rfl (slice_eq (by omega)) (.nil _))
  · exact ⟨Nat.zero_le _, L2_2, o2_2.cast (by omega) (by simp; rfl)⟩
  · rintro ⟨k, A1, c1⟩ wl ⟨hk, Ll, ol⟩
    have hk63 : noughts n ≤ 63 := by unfold noughts; omega
    refine WC.seq ?_
    refine WC.seq ?_
    refine WC.region ?_
    refine W.any (.move rfl) rfl rfl rfl ?_
    refine W.rd (.len Try.underlying24 rfl) rfl rfl rfl ?_
    refine W.any (.rem rfl rfl (by omega)) rfl rfl rfl ?_
    refine W.any (.neq rfl rfl) rfl rfl rfl ?_
    refine W.nil ?_
    refine E.thenN ?_
    refine WC.cond rfl (fun c0 => ?_) (fun c0 => ?_)
    · refine WC.skip ?_
      refine E.thenN ?_
      refine WC.block ?_
      refine WC.region ?_
      refine W.any (.move rfl) rfl rfl rfl ?_
      refine W.ef rfl rfl rfl ?_
      refine Ef.buildSlice1 Try.underlying24 el5 rfl rfl ?_
      intro g4_1 w4_1 hg4_1 b4_1 h4_1
      have L4_1 := Ll.trans h4_1
      refine W.ef rfl rfl rfl ?_
      refine Ef.append Try.underlying24 el5 rfl (ol.le h4_1) rfl (b4_1.src1 Try.underlying24 rfl) (by omega) (by unfold maxLen; omega) (L4_1.size) ?_
      intro A4_2 c4_2 w4_2 o4_2 h4_2 at4_2
      have L4_2 : Le w w4_2 := L4_1.then_ h4_2 (fun q hq => (ol.row hq).1)
      refine W.any (.assign rfl) rfl rfl rfl ?_
      refine W.nil ?_
      refine E.blkN ?_
      refine E.again (k + 1, A4_2, c4_2) (.cons rfl (.cons' rfl (slice_eq (by omega)) (.nil _))) ?_ ?_
      · exact ⟨by unfold noughts at *; omega, L4_2, o4_2.cast (by omega) (by simp [List.replicate_succ']; rfl)⟩
      · first | omega | (simp only []; omega)
    · have hkn : k = noughts n := by unfold noughts at *; omega
      subst hkn
      refine WC.exit ?_
      refine E.thenX ?_
      refine E.thenX ?_
      refine E.blkH ?_
      refine E.thenN ?_
      refine WC.seq ?_
      refine WC.region ?_
      refine W.any (.move rfl) rfl rfl rfl ?_
      refine W.rd (.len Try.underlying24 rfl) rfl rfl rfl ?_
      refine W.rd (.convEq (i' := (n : Int)) (isS Try.underlying3) Try.underlying47 rfl (by rw [wrap_u64]; omega)) rfl rfl rfl ?_
      refine W.any (.mulU rfl rfl (by omega)) rfl rfl rfl ?_
      refine W.any (.assign rfl) rfl rfl rfl ?_
      refine W.nil ?_
      refine E.thenN ?_
      refine WC.seq ?_
      refine WC.seq ?_
      refine WC.region ?_
      refine W.any (.assign rfl) rfl rfl rfl ?_
      refine W.nil ?_
      refine E.thenN ?_
      refine WC.block ?_
      refine WC.loop (ι := Nat × Option Addr × Nat) (fun ⟨k, A1, cz⟩ => [(3, .slice A1 (n + 1 + noughts n + k) cz), (4, .int .u64 (8 * (n : Int))), (5, .int .i64 (56 - 8 * (k : Int)))]) (fun ⟨k, A1, cz⟩ wm => k ≤ 8 ∧ Le w wm ∧ Own wm w.heap.size 5 1 A1 (n + 1 + noughts n + k) cz ((xs ++ [128] ++ List.replicate (noughts n) 0 ++ be8To (8 * n) k).map u8v)) (fun ⟨k, A1, cz⟩ => 8 - k) (0, A1, c1) ?_ ?_ ?_
      · exact .cons rfl (.cons rfl (.cons rfl (.nil _)))
      · exact ⟨by omega, Ll, ol.cast rfl (by simp [be8To])⟩
      · rintro ⟨k, A1, cz⟩ wm ⟨hk, Lm, ol⟩
        refine WC.seq ?_
        refine WC.seq ?_
        refine WC.region ?_
        refine W.any (.move rfl) rfl rfl rfl ?_
        refine W.any (.geq rfl rfl) rfl rfl rfl ?_
        refine W.nil ?_
        refine E.thenN ?_
        refine WC.cond rfl (fun c1 => ?_) (fun c1 => ?_)
        · refine WC.skip ?_
          refine E.thenN ?_
          refine WC.seq ?_
          refine WC.block ?_
          refine WC.region ?_
          refine W.any (.move rfl) rfl rfl rfl ?_
          refine W.any (.move rfl) rfl rfl rfl ?_
          refine W.any (.move rfl) rfl rfl rfl ?_
          refine W.any (.shrN (8 * n) (56 - 8 * k) rfl (by omega) rfl (by omega) (by show 56 - 8 * k ≤ 64; omega)) rfl rfl rfl ?_
          refine W.rd (.toU8 ((8 * n) >>> (56 - 8 * k)) (isS Try.underlying47) Try.underlying5 rfl rfl) rfl rfl rfl ?_
          refine W.ef rfl rfl rfl ?_
          refine Ef.buildSlice1 Try.underlying24 el5 rfl rfl ?_
          intro g9_5 w9_5 hg9_5 b9_5 h9_5
          have L9_5 := Lm.trans h9_5
          refine W.ef rfl rfl rfl ?_
          refine Ef.append Try.underlying24 el5 rfl (ol.le h9_5) rfl (b9_5.src1 Try.underlying24 rfl) (by omega) (by unfold maxLen; omega) (L9_5.size) ?_
          intro A9_6 c9_6 w9_6 o9_6 h9_6 at9_6
          have L9_6 : Le w w9_6 := L9_5.then_ h9_6 (fun q hq => (ol.row hq).1)
          refine W.any (.assign rfl) rfl rfl rfl ?_
          refine W.nil ?_
          refine E.blkN ?_
          refine E.thenN ?_
          refine WC.region ?_
          refine W.any (.move rfl) rfl rfl rfl ?_
          refine W.any (.sub rfl rfl (by omega)) rfl rfl rfl ?_
          refine W.any (.assign rfl) rfl rfl rfl ?_
          refine W.nil ?_
          refine E.again (k + 1, A9_6, c9_6) (.cons rfl (.cons rfl (.cons' rfl (int_eq (by omega)) (.nil _)))) ?_ ?_
          · exact ⟨by omega, L9_6, o9_6.cast rfl (by rw [be8To_succ (8 * n) k (by omega)]; simp)⟩
          · first | omega | (simp only []; omega)
        · have hk8 : k = 8 := by omega
          subst hk8
          refine WC.exit ?_
          refine E.thenX ?_
          refine E.thenX ?_
          refine E.blkH ?_
          refine E.thenN ?_
          refine WC.seq ?_
          refine WC.region ?_
          refine W.any (.move rfl) rfl rfl rfl ?_
          refine W.any (.assign rfl) rfl rfl rfl ?_
          refine W.nil ?_
          refine E.thenN ?_
          refine WC.ret ?_
          refine E.ret1 rfl rfl ?_
          exact ⟨_, _, rfl, ol.cast rfl (by rw [padB, hl]; rfl), Lm⟩

set_option maxHeartbeats 1000000 in
theorem rsum_ok {A : Option Addr} {n c : Nat} {xs : List Byte} (w : World) (hS : Sb w A n xs) (hn : n ≤ 35184372088832) : Calls Try.prog 103 #[.slice A n c] w fun e w' => e = .returned (.agg ((sum xs).map u8v).toArray) ∧ Le w w' := by
  have hk63 : noughts n ≤ 63 := by unfold noughts; omega
  refine enter Try.func103 rfl rfl ?_
  have L0 := Le.refl w
  refine WC.seq ?_
  refine WC.region ?_
  refine W.ef rfl rfl rfl ?_
  refine Ef.allocA z23 ?_
  intro g0_0 w0_0 hg0_0 b0_0 h0_0
  have L0_0 := L0.trans h0_0
  have b0 : Blk w0_0 g0_0 23 ((List.replicate 32 0#8).map u8v).toArray := b0_0
  refine W.nil ?_
  refine E.thenN ?_
  refine WC.seq ?_
  refine WC.region ?_
  refine W.any (.move rfl) rfl rfl rfl ?_
  refine W.ef rfl rfl rfl ?_
  refine Ef.call go124 rfl rfl (rpadded_ok w0_0 (hS.le L0_0) hn) ?_
  rintro _ w1_1 ⟨A1, c1, rfl, o1, h1_1⟩
  refine ⟨_, rfl, ?_⟩
  have L1_1 := L0_0.trans h1_1
  have hP := o1.sb
  have hPl := hP.len
  have hPm := padB_mod xs
  have hPc := o1.cap
  rw [hPl] at hPm
  obtain ⟨N, hN⟩ : ∃ N, N = n + 1 + noughts n + 8 := ⟨_, rfl⟩
  rw [← hN] at hP hPl hPm hPc ⊢
  refine W.any (.assign rfl) rfl rfl rfl ?_
  refine W.nil ?_
  refine E.thenN ?_
  refine WC.seq ?_
  refine WC.region ?_
  refine W.ef rfl rfl rfl ?_
  refine Ef.call go125 rfl rfl (rfirsts_ok w1_1) ?_
  rintro _ w2_0 ⟨A2, c2, rfl, o2, h2_0⟩
  refine ⟨_, rfl, ?_⟩
  have L2_0 := L1_1.trans h2_0
  refine W.any (.assign rfl) rfl rfl rfl ?_
  refine W.nil ?_
  refine E.thenN ?_
  refine WC.seq ?_
  refine WC.seq ?_
  refine WC.region ?_
  refine W.any (.assign rfl) rfl rfl rfl ?_
  refine W.nil ?_
  refine E.thenN ?_
  refine WC.block ?_
  refine WC.loop (ι := Nat × Option Addr × Nat × List Word) (fun ⟨j, Ah, ch, hh⟩ => [(2, .pointer (some ⟨g0_0, 0, none⟩)), (3, .slice A1 N c1), (4, .slice Ah 8 ch), (5, .int .i64 (64 * (j : Int)))]) (fun ⟨j, Ah, ch, hh⟩ wl => 64 * j ≤ N ∧ Le w2_0 wl ∧ hh.length = 8 ∧ Sl wl 1 Ah 8 (hh.map u32v) ∧ mixAll hh ((padB xs).drop (64 * j)) = mixAll first (padB xs)) (fun ⟨j, Ah, ch, hh⟩ => N - 64 * j) (0, A2, c2, first) ?_ ?_ ?_
  · exact .cons rfl (.cons rfl (.cons rfl (.cons rfl (.nil _))))
  · exact ⟨by omega, Le.refl _, rfl, o2.sl, rfl⟩
  · rintro ⟨j, Ah, ch, hh⟩ wl ⟨hj, Ll, hhl, sh, hmx⟩
    refine WC.seq ?_
    refine WC.seq ?_
    refine WC.region ?_
    refine W.any (.move rfl) rfl rfl rfl ?_
    refine W.any (.move rfl) rfl rfl rfl ?_
    refine W.rd (.len Try.underlying24 rfl) rfl rfl rfl ?_
    refine W.any (.lss rfl rfl) rfl rfl rfl ?_
    refine W.nil ?_
    refine E.thenN ?_
    refine WC.cond rfl (fun c0 => ?_) (fun c0 => ?_)
    · have hjN : 64 * j + 64 ≤ N := by omega
      refine WC.skip ?_
      refine E.thenN ?_
      refine WC.seq ?_
      refine WC.block ?_
      refine WC.region ?_
      refine W.any (.move rfl) rfl rfl rfl ?_
      refine W.any (.move rfl) rfl rfl rfl ?_
      refine W.any (.move rfl) rfl rfl rfl ?_
      refine W.any (.move rfl) rfl rfl rfl ?_
      refine W.any (.add rfl rfl (by omega)) rfl rfl rfl ?_
      refine W.any (.cut (64 * j) (64 * j + 64) Try.underlying24 sz5 rfl rfl (by omega) rfl (by omega) (by omega) (by omega)) rfl rfl rfl ?_
      refine W.ef rfl rfl rfl ?_
      refine Ef.call go126 rfl rfl (rblock_ok wl hhl sh (((hP.le (h2_0.trans Ll)).cut c1 (64 * j) (64 * j + 64) (by omega) (by omega) hPc.1).cast rfl (show _ = ((padB xs).drop (64 * j)).take 64 by rw [show 64 * j + 64 - 64 * j = 64 by omega])) (by omega)) ?_
      rintro _ w6_6 ⟨A6, c6, rfl, o6, h6_6⟩
      refine ⟨_, rfl, ?_⟩
      have L6_6 := (L2_0.trans Ll).trans h6_6
      refine W.any (.assign rfl) rfl rfl rfl ?_
      refine W.nil ?_
      refine E.blkN ?_
      refine E.thenN ?_
      refine WC.region ?_
      refine W.any (.move rfl) rfl rfl rfl ?_
      refine W.any (.add rfl rfl (by omega)) rfl rfl rfl ?_
      refine W.any (.assign rfl) rfl rfl rfl ?_
      refine W.nil ?_
      refine E.again (j + 1, A6, c6, mix hh (((padB xs).drop (64 * j)).take 64)) (.cons rfl (.cons rfl (.cons rfl (.cons' rfl (int_eq (by omega)) (.nil _))))) ?_ ?_
      · exact ⟨by omega, Ll.trans h6_6, mix_length _ _, o6.sl, by rw [← hmx, mixAll_step hh ((padB xs).drop (64 * j)) (by rw [List.length_drop]; omega), List.drop_drop] <;> (try congr 2) <;> (try omega)⟩
      · first | omega | (simp only []; omega)
    · have hjN : 64 * j = N := by omega
      have hhe : hh = mixAll first (padB xs) := by rw [← hmx, mixAll_end _ _ (by rw [List.length_drop]; omega)]
      refine WC.exit ?_
      refine E.thenX ?_
      refine E.thenX ?_
      refine E.blkH ?_
      refine E.thenN ?_
      refine WC.seq ?_
      refine WC.region ?_
      refine W.ef rfl rfl rfl ?_
      refine Ef.allocA z23 ?_
      intro g7_0 w7_0 hg7_0 b7_0 h7_0
      have L7_0 := (L2_0.trans Ll).trans h7_0
      have b7 : Blk w7_0 g7_0 23 ((List.replicate 32 0#8).map u8v).toArray := b7_0
      have b0 := b0.le (h1_1.trans (h2_0.trans (Ll.trans h7_0)))
      have n07 : g0_0 < g7_0 := by have := b0_0.lt; have := h1_1.size; have := h2_0.size; have := Ll.size; omega
      refine W.nil ?_
      refine E.thenN ?_
      refine WC.seq ?_
      refine WC.seq ?_
      refine WC.region ?_
      have shne : blkOf Ah ≠ some g7_0 := by
        obtain ⟨ad, rfl, hc0⟩ := sh.2 0 (u32v (hh.getD 0 0)) (getw _ (by omega))
        have := block_lt_of_cell hc0
        simp [blkOf] at this ⊢; have h0 : (ad.add 0).block = ad.block := by simp [Addr.add]
        omega
      refine W.any (.assign rfl) rfl rfl rfl ?_
      refine W.nil ?_
      refine E.thenN ?_
      refine WC.block ?_
      refine WC.loop (ι := Nat) (fun k => [(2, .pointer (some ⟨g0_0, 0, none⟩)), (4, .slice Ah 8 ch), (6, .pointer (some ⟨g7_0, 0, none⟩)), (7, .int .i64 (k : Int))]) (fun k wr => k ≤ 32 ∧ Ch w7_0 wr (some g7_0) ∧ Blk wr g7_0 23 ((digestTo hh k).map u8v).toArray) (fun k => 32 - k) 0 ?_ ?_ ?_
      · exact .cons rfl (.cons rfl (.cons rfl (.cons rfl (.nil _))))
      · exact ⟨by omega, Ch.refl _ _, b7⟩
      · rintro k wr ⟨hk, Cr, b7⟩
        have hdl := digestTo_length hh k hk
        have b0 := b0.ch Cr (by simp; omega)
        have sh := (sh.le h7_0).ch Cr (fun q hq => by cases hq; exact shne)
        refine WC.seq ?_
        refine WC.seq ?_
        refine WC.region ?_
        refine W.any (.move rfl) rfl rfl rfl ?_
        refine W.any (.lss rfl rfl) rfl rfl rfl ?_
        refine W.nil ?_
        refine E.thenN ?_
        refine WC.cond rfl (fun c1 => ?_) (fun c1 => ?_)
        · refine WC.skip ?_
          refine E.thenN ?_
          refine WC.seq ?_
          refine WC.block ?_
          refine WC.region ?_
          refine W.any (.move rfl) rfl rfl rfl ?_
          refine W.any (.move rfl) rfl rfl rfl ?_
          refine W.any (.move rfl) rfl rfl rfl ?_
          refine W.any (.quo rfl rfl (by omega)) rfl rfl rfl ?_
          refine W.any (.idxS1 (k / 4) Try.underlying147 sz150 rfl rfl (sh.isSome (j := 0) (by omega) (by decide)) (by omega) (by omega)) rfl rfl rfl ?_
          refine W.rd (.loadS na150 rfl (sh) (getw _ (by omega))) rfl rfl rfl ?_
          refine W.any (.move rfl) rfl rfl rfl ?_
          refine W.any (.rem rfl rfl (by omega)) rfl rfl rfl ?_
          refine W.any (.mul rfl rfl (by omega)) rfl rfl rfl ?_
          refine W.any (.sub rfl rfl (by omega)) rfl rfl rfl ?_
          refine W.any (.shr32 (24 - 8 * (k % 4)) rfl rfl (by omega) (by omega)) rfl rfl rfl ?_
          refine W.rd (.u32to8 (isS Try.underlying150) Try.underlying5 rfl) rfl rfl rfl ?_
          refine W.any (.idxA1 (k) Try.underlying23 sz5 rfl rfl (rfl) (by omega)) rfl rfl rfl ?_
          refine W.ef0 rfl rfl ?_
          refine Ef.store sz5 rfl rfl (b7) (by simp; omega) (rfl) ?_
          intro w11_13 b11_13 h11_13
          have L11_13 : Le w w11_13 := (L7_0.then_ Cr (fun q hq => by cases hq; exact Nat.le_trans (L2_0.trans Ll).size hg7_0)).then_ h11_13 (fun q hq => by cases hq; exact Nat.le_trans (L2_0.trans Ll).size hg7_0)
          refine W.nil ?_
          refine E.blkN ?_
          refine E.thenN ?_
          refine WC.region ?_
          refine W.any (.move rfl) rfl rfl rfl ?_
          refine W.any (.add rfl rfl (by omega)) rfl rfl rfl ?_
          refine W.any (.assign rfl) rfl rfl rfl ?_
          refine W.nil ?_
          refine E.again (k + 1) (.cons rfl (.cons rfl (.cons rfl (.cons rfl (.nil _))))) ?_ ?_
          · exact ⟨by omega, Cr.trans h11_13, b11_13.cast (by rw [← digestTo_succ hh k (by omega)]; apply Array.ext'; simp)⟩
          · first | omega | (simp only []; omega)
        · have hk32 : k = 32 := by omega
          subst hk32
          refine WC.exit ?_
          refine E.thenX ?_
          refine E.thenX ?_
          refine E.blkH ?_
          refine E.thenN ?_
          refine WC.seq ?_
          refine WC.region ?_
          refine W.rd (.loadAll ag23 (by simp [hdl]) rfl (b7)) rfl rfl rfl ?_
          refine W.ef0 rfl rfl ?_
          refine Ef.storeAll sz23 (by simp [hdl]) rfl rfl (b0) (by simp [hdl]) (all_u8v _) ?_
          intro w12_1 b12_1 h12_1
          have L12_1 : Le w w12_1 := (L7_0.then_ Cr (fun q hq => by cases hq; exact Nat.le_trans (L2_0.trans Ll).size hg7_0)).then_ h12_1 (fun q hq => by cases hq; exact hg0_0)
          refine W.nil ?_
          refine E.thenN ?_
          refine WC.ret ?_
          refine E.retC rfl rfl b12_1 ag23 (by simp [hdl]) ?_
          exact ⟨by rw [sum_pad, ← hhe]; simp [digestTo, List.take_of_length_le, digest_length], L12_1⟩
end Go.Proofs.Ytpmjdiccekkadaa
