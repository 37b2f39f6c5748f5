/- PartsPeeled: for every input the law answers true and leaves its arguments as they were. -/
import Derived.Test.YtfgakofjkldcjaaPartsPeeledB
import Derived.OrdersHeld
import Derived.WalkKit
import Derived.Deep.AppendSrc
import Derived.Deep.MidRow
import Derived.Laws.OwnMore
import Derived.WalkSpells
import Derived.ProofKit
import Derived.OpenShut
import Derived.ShutString
import Derived.ChangeOld
import Derived.Below
import Derived.Deep.Slices
import Derived.Lib.ConvBytes
import Derived.Lib.AppendZerosOnto
import Derived.Laws.StructEq
import Derived.Maps.RangeRun
import Derived.Laws.Pointers
import Derived.Test.YtfgakofjkldcjaaProg
import Derived.KernelRfl
import Derived.Lib.Mul64
import Derived.Test.YtfgakofjkldcjaaProg
import Derived.Shelf.SlIterI.Nil
import Derived.Shelf.SortM.Plain
import Derived.Shelf.SortM.SortNone
import Derived.Ground.GgzProg
import Derived.Ground.SlgmProg
import Derived.RangeFuncNested
import Derived.RangeFuncBound
import Derived.RangeFuncCalls
import Derived.RangeFuncLeaves
import Derived.OrdersIn
import Derived.Test.YtfgakofjkldcjaaRows
namespace Go.Proofs.Ytfgakofjkldcjaa
open Go Go.Sx Go.Hsp
set_option maxRecDepth 20000
theorem clone_ok {A : Option Addr} {n c : Nat} {xs : List Byte} (w : World) (hS : Sb w A n xs) (hn : n ≤ 70368744177664) : Calls Try.prog 125 #[.slice A n c] w fun e w' => ∃ A' c', e = .returned (.slice A' n c') ∧ Own w' w.heap.size 5 1 A' n c' (xs.map u8v) ∧ Le w w' := by
  refine enter Try.func125 rfl rfl ?_
  have L0 := Le.refl w
  refine WC.seq ?_
  refine WC.region ?_
  refine W.any (.assign rfl) rfl rfl rfl ?_
  refine W.nil ?_
  refine E.thenN ?_
  refine WC.seq ?_
  refine WC.seq ?_
  refine WC.region ?_
  refine W.any (.move rfl) rfl rfl rfl ?_
  refine W.any (.isNil Try.underlying107 rfl) rfl rfl rfl ?_
  refine W.nil ?_
  refine E.thenN ?_
  refine WC.condB rfl (fun c0 => ?_) (fun c0 => ?_)
  · have hA : A = none := by simpa using c0
    subst hA
    have hl := hS.len
    have hx : xs = [] := by cases xs with | nil => rfl | cons x xs => exact absurd (hS.isSome (by rw [← hl]; simp)) (by simp)
    subst hx
    have hn0 : n = 0 := by simpa using hl.symm
    subst hn0
    refine WC.seq ?_
    refine WC.region ?_
    refine W.any (.assign rfl) rfl rfl rfl ?_
    refine W.nil ?_
    refine E.thenN ?_
    refine WC.ret ?_
    refine E.thenR ?_
    refine E.ret1 rfl rfl ?_
    exact ⟨none, 0, rfl, Own.empty _ _ _ _ _, L0⟩
  · refine WC.skip ?_
    refine E.thenN ?_
    refine WC.seq ?_
    refine WC.region ?_
    refine W.ef rfl rfl rfl ?_
    refine Ef.buildSlice0 Try.underlying107 el5 ?_
    intro g3_0 w3_0 hg3_0 b3_0 h3_0
    have L3_0 := L0.trans h3_0
    refine W.any (.move rfl) rfl rfl rfl ?_
    refine W.ef rfl rfl rfl ?_
    refine Ef.append Try.underlying107 el5 rfl (Own.empty w3_0 w.heap.size 5 1 _) rfl ((hS.le L3_0).src Try.underlying107 _) (by omega) (by unfold maxLen; omega) (L3_0.size) ?_
    intro A3_2 c3_2 w3_2 o3_2 h3_2 at3_2
    have L3_2 : Le w w3_2 := L3_0.then_ h3_2 (fun q hq => by rw [rowOf_zero] at hq; cases hq)
    refine W.any (.assign rfl) rfl rfl rfl ?_
    refine W.nil ?_
    refine E.thenN ?_
    refine WC.ret ?_
    refine E.ret1 rfl rfl ?_
    exact ⟨A3_2, c3_2, by rw [Nat.zero_add], o3_2.cast (Nat.zero_add n) (List.nil_append _), L3_2⟩

theorem long_ok {A : Option Addr} {n c base : Nat} {xs : List Byte} (m : Nat) (w : World) (hO : Own w base 5 1 A n c (xs.map u8v)) (_hm : m ≤ 9223372036854775807) (hn : n ≤ 70368744177664) (hb : base ≤ w.heap.size) : Calls Try.prog 126 #[.slice A n c, .int .i64 (m : Int)] w fun e w' => ∃ A' c', e = .returned (.slice A' (n + 8) c') ∧ Own w' base 5 1 A' (n + 8) c' ((xs ++ be8 m).map u8v) ∧ Ch w w' (rowOf A c) ∧ At w A c A' c' := by
  refine enter Try.func126 rfl rfl ?_
  have L0 := Le.refl w
  refine WC.seq ?_
  refine WC.region ?_
  refine W.any (.assign rfl) rfl rfl rfl ?_
  refine W.nil ?_
  refine E.thenN ?_
  refine WC.seq ?_
  refine WC.seq ?_
  refine WC.region ?_
  refine W.any (.assign rfl) rfl rfl rfl ?_
  refine W.nil ?_
  refine E.thenN ?_
  refine WC.block ?_
  refine WC.loop (ι := Nat × Option Addr × Nat) (fun ⟨k, A1, c1⟩ => [(0, .slice A1 (n + k) c1), (1, .int .i64 (m : Int)), (5, .int .i64 (56 - 8 * (k : Int)))]) (fun ⟨k, A1, c1⟩ wl => k ≤ 8 ∧ Own wl base 5 1 A1 (n + k) c1 ((xs ++ be8To m k).map u8v) ∧ Ch w wl (rowOf A c) ∧ At w A c A1 c1) (fun ⟨k, A1, c1⟩ => 8 - k) (0, A, c) ?_ ?_ ?_
  · exact .cons rfl (.cons rfl (.cons rfl (.nil _)))
  · exact ⟨by omega, hO.cast rfl (by simp [be8To]), Ch.refl _ _, At.refl _ _ _⟩
  · rintro ⟨k, A1, c1⟩ wl ⟨hk, ol, chl, atl⟩
    refine WC.seq ?_
    refine WC.seq ?_
    refine WC.region ?_
    refine W.any (.move rfl) rfl rfl rfl ?_
    refine W.any (.geq rfl rfl) rfl rfl rfl ?_
    refine W.nil ?_
    refine E.thenN ?_
    refine WC.cond rfl (fun c0 => ?_) (fun c0 => ?_)
    · refine WC.skip ?_
      refine E.thenN ?_
      refine WC.seq ?_
      refine WC.block ?_
      refine WC.region ?_
      refine W.any (.move rfl) rfl rfl rfl ?_
      refine W.any (.move rfl) rfl rfl rfl ?_
      refine W.any (.move rfl) rfl rfl rfl ?_
      refine W.any (.shrN m (56 - 8 * k) rfl rfl rfl (by omega) (by show 56 - 8 * k ≤ 64; omega)) rfl rfl rfl ?_
      refine W.rd (.toU8 (m >>> (56 - 8 * k)) (isS Try.underlying3) Try.underlying5 rfl rfl) rfl rfl rfl ?_
      refine W.ef rfl rfl rfl ?_
      refine Ef.buildSlice1 Try.underlying107 el5 rfl rfl ?_
      intro g4_5 w4_5 hg4_5 b4_5 h4_5
      refine W.ef rfl rfl rfl ?_
      refine Ef.append Try.underlying107 el5 rfl (ol.le h4_5) rfl (b4_5.src1 Try.underlying107 rfl) (by omega) (by unfold maxLen; omega) (Nat.le_trans hb (Nat.le_trans chl.size h4_5.size)) ?_
      intro A4_6 c4_6 w4_6 o4_6 h4_6 at4_6
      refine W.any (.assign rfl) rfl rfl rfl ?_
      refine W.nil ?_
      refine E.blkN ?_
      refine E.thenN ?_
      refine WC.region ?_
      refine W.any (.move rfl) rfl rfl rfl ?_
      refine W.any (.sub rfl rfl (by omega)) rfl rfl rfl ?_
      refine W.any (.assign rfl) rfl rfl rfl ?_
      refine W.nil ?_
      refine E.again (k + 1, A4_6, c4_6) (.cons rfl (.cons rfl (.cons' rfl (int_eq (by omega)) (.nil _)))) ?_ ?_
      · exact ⟨by omega, o4_6.cast rfl (by rw [be8To_succ m k (by omega)]; simp), (chl.trans (h4_5.ch _)).then_ h4_6 (fun q hq => (atl q hq).symm), atl.trans (Nat.le_trans chl.size h4_5.size) at4_6⟩
      · first | omega | (simp only []; omega)
    · have hk8 : k = 8 := by omega
      subst hk8
      refine WC.exit ?_
      refine E.thenX ?_
      refine E.thenX ?_
      refine E.blkH ?_
      refine E.thenN ?_
      refine WC.seq ?_
      refine WC.region ?_
      refine W.any (.move rfl) rfl rfl rfl ?_
      refine W.any (.assign rfl) rfl rfl rfl ?_
      refine W.nil ?_
      refine E.thenN ?_
      refine WC.ret ?_
      refine E.ret1 rfl rfl ?_
      exact ⟨A1, c1, rfl, ol, chl, atl⟩

set_option maxHeartbeats 1000000 in
theorem sum_ok {A : Option Addr} {n c : Nat} {xs : List Byte} (w : World) (hS : Sb w A n xs) (hn : n ≤ 35184372088832) (hc : n ≤ c) : Calls Try.prog 73 #[.slice A n c] w fun e w' => e = .returned (.agg ((sum xs).map u8v).toArray) ∧ Le w w' := by
  have hl := hS.len
  refine enter Try.func73 rfl rfl ?_
  have L0 := Le.refl w
  refine WC.seq ?_
  refine WC.region ?_
  refine W.ef rfl rfl rfl ?_
  refine Ef.allocA z89 ?_
  intro g0_0 w0_0 hg0_0 b0_0 h0_0
  have L0_0 := L0.trans h0_0
  have b0 : Blk w0_0 g0_0 89 ((List.replicate 32 0#8).map u8v).toArray := b0_0
  refine W.nil ?_
  refine E.thenN ?_
  refine WC.seq ?_
  refine WC.region ?_
  refine W.any (.move rfl) rfl rfl rfl ?_
  refine W.any (.move rfl) rfl rfl rfl ?_
  refine W.rd (.len Try.underlying107 rfl) rfl rfl rfl ?_
  refine W.any (.move rfl) rfl rfl rfl ?_
  refine W.rd (.len Try.underlying107 rfl) rfl rfl rfl ?_
  refine W.any (.rem rfl rfl (by omega)) rfl rfl rfl ?_
  refine W.any (.sub rfl rfl (by omega)) rfl rfl rfl ?_
  refine W.any (.cutL (n - n % 64) Try.underlying107 sz5 rfl rfl (by omega) (by omega) (by omega)) rfl rfl rfl ?_
  refine W.ef rfl rfl rfl ?_
  refine Ef.call go125 rfl rfl (clone_ok w0_0 ((hS.le L0_0).cutL c (n - n % 64) (by omega) hc) (by omega)) ?_
  rintro _ w1_8 ⟨A1, c1, rfl, o1, h1_8⟩
  refine ⟨_, rfl, ?_⟩
  have L1_8 := L0_0.trans h1_8
  have o1b := o1
  have o1 := o1.mono L0_0.size
  refine W.ef rfl rfl rfl ?_
  refine Ef.buildSlice1 Try.underlying107 el5 rfl rfl ?_
  intro g1_9 w1_9 hg1_9 b1_9 h1_9
  have L1_9 := L1_8.trans h1_9
  refine W.ef rfl rfl rfl ?_
  refine Ef.append Try.underlying107 el5 rfl (o1.le h1_9) rfl (b1_9.src1 Try.underlying107 rfl) (by omega) (by unfold maxLen; omega) (L1_9.size) ?_
  intro A1_10 c1_10 w1_10 o1_10 h1_10 at1_10
  have L1_10 : Le w w1_10 := L1_9.then_ h1_10 (fun q hq => (o1.row hq).1)
  have ne0 : rowOf A1_10 c1_10 ≠ some g0_0 := at1_10.off (by have := b0.lt; have := h1_8.size; have := h1_9.size; omega) (fun he => by have := (o1b.row he).1; have := b0.lt; omega)
  have b0 := ((b0.le h1_8).le h1_9).ch h1_10 (fun he => by have := (o1b.row he).1; have := b0.lt; omega)
  refine W.any (.assign rfl) rfl rfl rfl ?_
  refine W.nil ?_
  refine E.thenN ?_
  refine WC.seq ?_
  refine WC.block ?_
  refine WC.loop (ι := Nat × Option Addr × Nat) (fun ⟨k, A2, c2⟩ => [(0, .slice A n c), (2, .pointer (some ⟨g0_0, 0, none⟩)), (3, .slice A2 (n % 64 + 1 + k) c2)]) (fun ⟨k, A2, c2⟩ wl => k ≤ noughts n ∧ Le w wl ∧ Own wl w.heap.size 5 1 A2 (n % 64 + 1 + k) c2 ((xs.drop (n - n % 64) ++ [128] ++ List.replicate k 0).map u8v) ∧ Blk wl g0_0 89 ((List.replicate 32 0#8).map u8v).toArray ∧ rowOf A2 c2 ≠ some g0_0) (fun ⟨k, A2, c2⟩ => 64 - k) (0, A1_10, c1_10) ?_ ?_ ?_
  · exact .cons rfl (.cons rfl (.cons' rfl (slice_eq (by omega)) (.nil _)))
  · exact ⟨Nat.zero_le _, L1_10, o1_10.cast (by omega) (by simp; rfl), b0, ne0⟩
  · rintro ⟨k, A2, c2⟩ wl ⟨hk, Ll, ol, b0, ne0⟩
    have hk63 : noughts n ≤ 63 := by unfold noughts; omega
    refine WC.seq ?_
    refine WC.seq ?_
    refine WC.region ?_
    refine W.any (.move rfl) rfl rfl rfl ?_
    refine W.rd (.len Try.underlying107 rfl) rfl rfl rfl ?_
    refine W.any (.rem rfl rfl (by omega)) rfl rfl rfl ?_
    refine W.any (.neq rfl rfl) rfl rfl rfl ?_
    refine W.nil ?_
    refine E.thenN ?_
    refine WC.cond rfl (fun c0 => ?_) (fun c0 => ?_)
    · refine WC.skip ?_
      refine E.thenN ?_
      refine WC.block ?_
      refine WC.region ?_
      refine W.any (.move rfl) rfl rfl rfl ?_
      refine W.ef rfl rfl rfl ?_
      refine Ef.buildSlice1 Try.underlying107 el5 rfl rfl ?_
      intro g3_1 w3_1 hg3_1 b3_1 h3_1
      have L3_1 := Ll.trans h3_1
      refine W.ef rfl rfl rfl ?_
      refine Ef.append Try.underlying107 el5 rfl (ol.le h3_1) rfl (b3_1.src1 Try.underlying107 rfl) (by omega) (by unfold maxLen; omega) (Nat.le_trans Ll.size h3_1.size) ?_
      intro A3_2 c3_2 w3_2 o3_2 h3_2 at3_2
      have L3_2 : Le w w3_2 := L3_1.then_ h3_2 (fun q hq => (ol.row hq).1)
      refine W.any (.assign rfl) rfl rfl rfl ?_
      refine W.nil ?_
      refine E.blkN ?_
      refine E.again (k + 1, A3_2, c3_2) (.cons rfl (.cons rfl (.cons' rfl (slice_eq (by omega)) (.nil _)))) ?_ ?_
      · exact ⟨by unfold noughts at *; omega, L3_2, o3_2.cast (by omega) (by simp [List.replicate_succ']; rfl), (b0.le h3_1).ch h3_2 ne0, at3_2.off (by have := b0.lt; have := h3_1.size; omega) ne0⟩
      · first | omega | (simp only []; omega)
    · have hkn : k = noughts n := by unfold noughts at *; omega
      subst hkn
      refine WC.exit ?_
      refine E.thenX ?_
      refine E.thenX ?_
      refine E.blkH ?_
      refine E.thenN ?_
      refine WC.seq ?_
      refine WC.region ?_
      refine W.any (.move rfl) rfl rfl rfl ?_
      refine W.any (.move rfl) rfl rfl rfl ?_
      refine W.rd (.len Try.underlying107 rfl) rfl rfl rfl ?_
      refine W.any (.mul rfl rfl (by omega)) rfl rfl rfl ?_
      refine W.ef rfl rfl rfl ?_
      refine Ef.call go126 rfl rfl (long_ok (8 * n) wl ol (by omega) (by omega) Ll.size) ?_
      rintro _ w4_4 ⟨A4, c4, rfl, o4, h4_4, at4⟩
      refine ⟨_, rfl, ?_⟩
      have L4_4 : Le w w4_4 := Ll.then_ h4_4 (fun q hq => (ol.row hq).1)
      have b0 := b0.ch h4_4 ne0
      obtain ⟨ge, hA4, hge1, hge2, hrow⟩ := o4.lit (by omega)
      subst hA4
      have hce := o4.cap.1
      have hE : Sb w4_4 (some ⟨ge, 0, none⟩) (n % 64 + 1 + noughts n + 8) (tail xs) := o4.sb.cast rfl (by simp [tail, hl])
      have htl := tail_length xs
      have hlen := hE.len
      rw [hlen] at htl
      refine W.any (.assign rfl) rfl rfl rfl ?_
      refine W.nil ?_
      refine E.thenN ?_
      refine WC.seq ?_
      refine WC.region ?_
      refine W.ef rfl rfl rfl ?_
      refine Ef.call go127 rfl rfl (first_ok w4_4) ?_
      rintro _ w5_0 ⟨rfl, h5_0⟩
      refine ⟨_, rfl, ?_⟩
      have L5_0 := L4_4.trans h5_0
      refine W.ef rfl rfl rfl ?_
      refine Ef.allocA z196 ?_
      intro g5_1 w5_1 hg5_1 b5_1 h5_1
      have L5_1 := L5_0.trans h5_1
      refine W.ef0 rfl rfl ?_
      refine Ef.storeAll sz196 (rfl) rfl rfl (b5_1) (rfl) (fun v hv => all_u32v _ v (by simpa using hv)) ?_
      intro w5_2 b5_2 h5_2
      have L5_2 : Le w w5_2 := L5_1.then_ h5_2 (fun q hq => by cases hq; exact Nat.le_trans L5_0.size hg5_1)
      have g5 : w4_4.heap.size ≤ g5_1 := Nat.le_trans h5_0.size hg5_1
      have n05 : g0_0 < g5_1 := Nat.lt_of_lt_of_le b0.lt g5
      have ne5 : ge < g5_1 := Nat.lt_of_lt_of_le hge2 g5
      have hgh : w.heap.size ≤ g5_1 := Nat.le_trans L4_4.size g5
      have b0 := ((b0.le h5_0).le h5_1).ch h5_2 (by simp; omega)
      have hE := ((hE.le h5_0).le h5_1).ch h5_2 (fun q hq => by cases hq; simp [blkOf]; omega)
      refine W.nil ?_
      refine E.thenN ?_
      refine WC.seq ?_
      refine WC.block ?_
      refine WC.loop (ι := Option Addr × Nat × Nat × List Byte × List Word) (fun ⟨Ab, nb, cb, ys, hh⟩ => [(0, .slice Ab nb cb), (2, .pointer (some ⟨g0_0, 0, none⟩)), (3, .slice (some ⟨ge, 0, none⟩) (n % 64 + 1 + noughts n + 8) c4), (4, .pointer (some ⟨g5_1, 0, none⟩))]) (fun ⟨Ab, nb, cb, ys, hh⟩ wp => Sb w Ab nb ys ∧ nb ≤ cb ∧ hh.length = 8 ∧ mixAll hh ys = mixAll first xs ∧ Le w wp ∧ Blk wp g5_1 196 (hh.map u32v).toArray ∧ Blk wp g0_0 89 ((List.replicate 32 0#8).map u8v).toArray ∧ Sb wp (some ⟨ge, 0, none⟩) (n % 64 + 1 + noughts n + 8) (tail xs)) (fun ⟨Ab, nb, cb, ys, hh⟩ => nb) (A, n, c, xs, first) ?_ ?_ ?_
      · exact .cons rfl (.cons rfl (.cons rfl (.cons rfl (.nil _))))
      · exact ⟨hS, hc, rfl, rfl, L5_2, b5_2, b0, hE⟩
      · rintro ⟨Ab, nb, cb, ys, hh⟩ wp ⟨hb, hcb, hhl, hmx, Lp, bh, b0, hE⟩
        have hyl := hb.len
        refine WC.seq ?_
        refine WC.seq ?_
        refine WC.region ?_
        refine W.any (.move rfl) rfl rfl rfl ?_
        refine W.rd (.len Try.underlying107 rfl) rfl rfl rfl ?_
        refine W.any (.geq rfl rfl) rfl rfl rfl ?_
        refine W.nil ?_
        refine E.thenN ?_
        refine WC.cond rfl (fun c1 => ?_) (fun c1 => ?_)
        · refine WC.skip ?_
          refine E.thenN ?_
          refine WC.seq ?_
          refine WC.block ?_
          refine WC.draw [0, 1, 2, 3, 4] mixed (by kernel_rfl) ?_
          intro w8 d8
          have L8 := Lp.trans d8
          refine G.rd rfl rfl (.loadAll ag196 (by simp [hhl]) rfl (bh.le d8)) rfl rfl rfl ?_
          refine G.any rfl rfl (.move rfl) rfl rfl rfl ?_
          refine G.any rfl rfl (.cutH (64) Try.underlying107 sz5 rfl rfl (rfl) (by omega)) rfl rfl rfl ?_
          refine G.ef rfl rfl rfl rfl rfl ?_
          refine Ef.call go128 rfl rfl (mix_ok w8 hhl ((hb.le L8).cutH 64 (by omega)) rfl (by omega)) ?_
          rintro _ w8_3 ⟨rfl, h8_3⟩
          refine ⟨_, rfl, ?_⟩
          have L8_3 := L8.trans h8_3
          refine ⟨fun _ => h8_3, ?_⟩
          refine G.ef0 rfl rfl rfl rfl ?_
          refine Ef.storeAll sz196 (by simp [mix_length]) rfl rfl ((bh.le d8).le h8_3) (by simp [mix_length, hhl]) (fun v hv => all_u32v _ v (by simpa using hv)) ?_
          intro w8_4 b8_4 h8_4
          have L8_4 : Le w w8_4 := L8_3.then_ h8_4 (fun q hq => by cases hq; exact hgh)
          refine ⟨fun h => absurd h (ne_true_of_eq_false (by kernel_rfl)), ?_⟩
          refine G.nil ?_
          refine E.blkN ?_
          refine E.thenN ?_
          refine WC.region ?_
          refine W.any (.move rfl) rfl rfl rfl ?_
          refine W.any (.cutL (64) Try.underlying107 sz5 rfl rfl (rfl) (by omega) (by omega)) rfl rfl rfl ?_
          refine W.any (.assign rfl) rfl rfl rfl ?_
          refine W.nil ?_
          refine E.again (cutA Ab cb 64 1, nb - 64, cb - 64, ys.drop 64, mix hh (ys.take 64)) (.cons rfl (.cons rfl (.cons rfl (.cons rfl (.nil _))))) ?_ ?_
          · exact ⟨hb.cutL cb 64 (by omega) hcb, by omega, mix_length _ _, (mixAll_step _ _ (by omega)).symm.trans hmx, L8_4, b8_4, ((b0.le d8).le h8_3).ch h8_4 (by simp; omega), ((hE.le d8).le h8_3).ch h8_4 (fun q hq => by cases hq; simp [blkOf]; omega)⟩
          · first | omega | (simp only []; omega)
        · have hhe : hh = mixAll first xs := by rw [← hmx, mixAll_end _ _ (by omega)]
          refine WC.exit ?_
          refine E.thenX ?_
          refine E.thenX ?_
          refine E.blkH ?_
          refine E.thenN ?_
          refine WC.seq ?_
          refine WC.block ?_
          refine WC.loop (ι := Option Addr × Nat × Nat × List Byte × List Word) (fun ⟨Ab, nb, cb, ys, hh⟩ => [(2, .pointer (some ⟨g0_0, 0, none⟩)), (3, .slice Ab nb cb), (4, .pointer (some ⟨g5_1, 0, none⟩))]) (fun ⟨Ab, nb, cb, ys, hh⟩ wq => Sb wq Ab nb ys ∧ blkOf Ab = some ge ∧ nb ≤ cb ∧ nb % 64 = 0 ∧ hh.length = 8 ∧ mixAll hh ys = mixAll (mixAll first xs) (tail xs) ∧ Le w wq ∧ Blk wq g5_1 196 (hh.map u32v).toArray ∧ Blk wq g0_0 89 ((List.replicate 32 0#8).map u8v).toArray) (fun ⟨Ab, nb, cb, ys, hh⟩ => nb) (some ⟨ge, 0, none⟩, n % 64 + 1 + noughts n + 8, c4, tail xs, hh) ?_ ?_ ?_
          · exact .cons rfl (.cons rfl (.cons rfl (.nil _)))
          · exact ⟨hE, rfl, hce, htl, hhl, by rw [hhe], Lp, bh, b0⟩
          · rintro ⟨Ab, nb, cb, ys, hh⟩ wq ⟨hb, hbe, hcb, h64, hhl, hmx, Lq, bh, b0⟩
            have hyl := hb.len
            refine WC.seq ?_
            refine WC.seq ?_
            refine WC.region ?_
            refine W.any (.move rfl) rfl rfl rfl ?_
            refine W.rd (.len Try.underlying107 rfl) rfl rfl rfl ?_
            refine W.any (.gtr rfl rfl) rfl rfl rfl ?_
            refine W.nil ?_
            refine E.thenN ?_
            refine WC.cond rfl (fun c2 => ?_) (fun c2 => ?_)
            · refine WC.skip ?_
              refine E.thenN ?_
              refine WC.seq ?_
              refine WC.block ?_
              refine WC.draw [0, 1, 2, 3, 4] mixed (by kernel_rfl) ?_
              intro w11 d11
              have L11 := Lq.trans d11
              refine G.rd rfl rfl (.loadAll ag196 (by simp [hhl]) rfl (bh.le d11)) rfl rfl rfl ?_
              refine G.any rfl rfl (.move rfl) rfl rfl rfl ?_
              refine G.any rfl rfl (.cutH (64) Try.underlying107 sz5 rfl rfl (rfl) (by omega)) rfl rfl rfl ?_
              refine G.ef rfl rfl rfl rfl rfl ?_
              refine Ef.call go128 rfl rfl (mix_ok w11 hhl ((hb.le d11).cutH 64 (by omega)) rfl (by omega)) ?_
              rintro _ w11_3 ⟨rfl, h11_3⟩
              refine ⟨_, rfl, ?_⟩
              have L11_3 := L11.trans h11_3
              refine ⟨fun _ => h11_3, ?_⟩
              refine G.ef0 rfl rfl rfl rfl ?_
              refine Ef.storeAll sz196 (by simp [mix_length]) rfl rfl ((bh.le d11).le h11_3) (by simp [mix_length, hhl]) (fun v hv => all_u32v _ v (by simpa using hv)) ?_
              intro w11_4 b11_4 h11_4
              have L11_4 : Le w w11_4 := L11_3.then_ h11_4 (fun q hq => by cases hq; exact hgh)
              refine ⟨fun h => absurd h (ne_true_of_eq_false (by kernel_rfl)), ?_⟩
              refine G.nil ?_
              refine E.blkN ?_
              refine E.thenN ?_
              refine WC.region ?_
              refine W.any (.move rfl) rfl rfl rfl ?_
              refine W.any (.cutL (64) Try.underlying107 sz5 rfl rfl (rfl) (by omega) (by omega)) rfl rfl rfl ?_
              refine W.any (.assign rfl) rfl rfl rfl ?_
              refine W.nil ?_
              refine E.again (cutA Ab cb 64 1, nb - 64, cb - 64, ys.drop 64, mix hh (ys.take 64)) (.cons rfl (.cons rfl (.cons rfl (.nil _)))) ?_ ?_
              · exact ⟨(((hb.le d11).le h11_3).ch h11_4 (fun q hq => by cases hq; rw [hbe]; simp; omega)).cutL cb 64 (by omega) hcb, by rw [blkOf_cutA, hbe], by omega, by omega, mix_length _ _, (mixAll_step _ _ (by omega)).symm.trans hmx, L11_4, b11_4, ((b0.le d11).le h11_3).ch h11_4 (by simp; omega)⟩
              · first | omega | (simp only []; omega)
            · have hhe : hh = mixAll (mixAll first xs) (tail xs) := by rw [← hmx, mixAll_end _ _ (by omega)]
              refine WC.exit ?_
              refine E.thenX ?_
              refine E.thenX ?_
              refine E.blkH ?_
              refine E.thenN ?_
              refine WC.seq ?_
              refine WC.seq ?_
              refine WC.region ?_
              refine W.any (.move rfl) rfl rfl rfl ?_
              refine W.nil ?_
              refine E.thenN ?_
              refine WC.block ?_
              refine WC.loop (ι := Nat) (fun k => [(2, .pointer (some ⟨g0_0, 0, none⟩)), (4, .pointer (some ⟨g5_1, 0, none⟩)), (48, .int .i64 (k : Int))]) (fun k wr => k ≤ 32 ∧ Le w wr ∧ Blk wr g5_1 196 (hh.map u32v).toArray ∧ Blk wr g0_0 89 ((digestTo hh k).map u8v).toArray) (fun k => 32 - k) 0 ?_ ?_ ?_
              · exact .cons rfl (.cons rfl (.cons rfl (.nil _)))
              · exact ⟨by omega, Lq, bh, b0⟩
              · rintro k wr ⟨hk, Lr, bh, b0⟩
                have hdl := digestTo_length hh k hk
                refine WC.seq ?_
                refine WC.region ?_
                refine W.any (.lss rfl rfl) rfl rfl rfl ?_
                refine W.nil ?_
                refine E.thenN ?_
                refine WC.seq ?_
                refine WC.cond rfl (fun c3 => ?_) (fun c3 => ?_)
                · refine WC.skip ?_
                  refine E.thenN ?_
                  refine WC.seq ?_
                  refine WC.block ?_
                  refine WC.seq ?_
                  refine WC.region ?_
                  refine W.any (.move rfl) rfl rfl rfl ?_
                  refine W.any (.assign rfl) rfl rfl rfl ?_
                  refine W.nil ?_
                  refine E.thenN ?_
                  refine WC.region ?_
                  refine W.any (.move rfl) rfl rfl rfl ?_
                  refine W.any (.move rfl) rfl rfl rfl ?_
                  refine W.any (.quo rfl rfl (by omega)) rfl rfl rfl ?_
                  refine W.any (.idxA1 (k / 4) Try.underlying196 sz194 rfl rfl (by omega) (by omega)) rfl rfl rfl ?_
                  refine W.rd (.loadB na194 rfl (bh) (getwA _ (by omega))) rfl rfl rfl ?_
                  refine W.any (.move rfl) rfl rfl rfl ?_
                  refine W.any (.rem rfl rfl (by omega)) rfl rfl rfl ?_
                  refine W.any (.mul rfl rfl (by omega)) rfl rfl rfl ?_
                  refine W.any (.sub rfl rfl (by omega)) rfl rfl rfl ?_
                  refine W.any (.shr32 (24 - 8 * (k % 4)) rfl rfl (by omega) (by omega)) rfl rfl rfl ?_
                  refine W.rd (.u32to8 (isS Try.underlying194) Try.underlying5 rfl) rfl rfl rfl ?_
                  refine W.any (.idxA1 (k) Try.underlying89 sz5 rfl rfl (rfl) (by omega)) rfl rfl rfl ?_
                  refine W.ef0 rfl rfl ?_
                  refine Ef.store sz5 rfl rfl (b0) (by simp; omega) (rfl) ?_
                  intro w15_12 b15_12 h15_12
                  have L15_12 : Le w w15_12 := Lr.then_ h15_12 (fun q hq => by cases hq; exact hg0_0)
                  refine W.nil ?_
                  refine E.blkN ?_
                  refine E.thenN ?_
                  refine WC.region ?_
                  refine W.any (.add rfl rfl (by omega)) rfl rfl rfl ?_
                  refine W.any (.move rfl) rfl rfl rfl ?_
                  refine W.nil ?_
                  refine E.again (k + 1) (.cons rfl (.cons rfl (.cons rfl (.nil _)))) ?_ ?_
                  · exact ⟨by omega, L15_12, bh.ch h15_12 (by simp; omega), b15_12.cast (by rw [← digestTo_succ hh k (by omega)]; apply Array.ext'; simp)⟩
                  · first | omega | (simp only []; omega)
                · have hk32 : k = 32 := by omega
                  subst hk32
                  refine WC.exit ?_
                  refine E.thenX ?_
                  refine E.thenX ?_
                  refine E.blkH ?_
                  refine E.thenN ?_
                  refine WC.seq ?_
                  refine WC.region ?_
                  refine W.rd (.loadAll ag89 (by simp [hdl]) rfl (b0)) rfl rfl rfl ?_
                  refine W.ef0 rfl rfl ?_
                  refine Ef.storeAll sz89 (by simp [hdl]) rfl rfl (b0) (by simp) (all_u8v _) ?_
                  intro w17_1 b17_1 h17_1
                  have L17_1 : Le w w17_1 := Lr.then_ h17_1 (fun q hq => by cases hq; exact hg0_0)
                  refine W.nil ?_
                  refine E.thenN ?_
                  refine WC.ret ?_
                  refine E.retC rfl rfl b17_1 ag89 (by simp [hdl]) ?_
                  exact ⟨by rw [Hsp.sum, ← hhe]; simp [digestTo, List.take_of_length_le, digest_length], L17_1⟩

set_option maxHeartbeats 1000000 in
theorem tag_ok {A : Option Addr} {n c : Nat} {vs : List Value} {ps : List (List Byte)} (name : ByteArray) (nm : List Byte) (w : World) (hnm : byteCells name = nm.map u8v) (hV : Sl w 1 A n vs) (hP : Parts w vs ps) (hT : (tagBytes nm ps).length ≤ 1099511627776) : Calls Try.prog 107 #[.string name, .slice A n c] w fun e w' => e = .returned (.agg ((tag nm ps).map u8v).toArray) ∧ Le w w' := by
  have hns : name.size = nm.length := by have := congrArg List.length hnm; simpa [byteCells_length] using this
  have hnl : nm.length = name.size := hns.symm
  have hvl := hV.1
  have hpl := hP.1
  have hpn := tagBytes_parts nm ps
  have hle := tagTo_le nm ps 0
  rw [tagTo_zero] at hle
  simp [be8_length] at hle
  refine enter Try.func107 rfl rfl ?_
  have L0 := Le.refl w
  refine WC.seq ?_
  refine WC.region ?_
  refine W.ef rfl rfl rfl ?_
  refine Ef.allocA z89 ?_
  intro g0_0 w0_0 hg0_0 b0_0 h0_0
  have L0_0 := L0.trans h0_0
  have b0 : Blk w0_0 g0_0 89 ((List.replicate 32 0#8).map u8v).toArray := b0_0
  refine W.nil ?_
  refine E.thenN ?_
  refine WC.seq ?_
  refine WC.region ?_
  refine W.any (.move rfl) rfl rfl rfl ?_
  refine W.rd (.lenStr Try.underlying9 rfl) rfl rfl rfl ?_
  refine W.ef rfl rfl rfl ?_
  refine Ef.call go126 rfl rfl (long_ok (xs := []) name.size w0_0 (Own.empty w0_0 w.heap.size 5 1 none) (by omega) (by omega) L0_0.size) ?_
  rintro _ w1_2 ⟨A1, c1, rfl, o1, h1_2, at1⟩
  refine ⟨_, rfl, ?_⟩
  have L1_2 : Le w w1_2 := L0_0.then_ h1_2 (fun q hq => by rw [rowOf_zero] at hq; cases hq)
  have b0 := b0.ch h1_2 (by rw [rowOf_zero]; simp)
  have ne0 : rowOf A1 c1 ≠ some g0_0 := fun he => by have := at1.none he; have := b0_0.lt; omega
  refine W.any (.move rfl) rfl rfl rfl ?_
  refine W.ef rfl rfl rfl ?_
  refine Ef.append Try.underlying107 el5 rfl (o1) rfl (Src.ofString w1_2 Try.underlying9 name) (by omega) (by unfold maxLen; omega) (L1_2.size) ?_
  intro A1_4 c1_4 w1_4 o1_4 h1_4 at1_4
  have L1_4 : Le w w1_4 := L1_2.then_ h1_4 (fun q hq => (o1.row hq).1)
  have ne0 : rowOf A1_4 c1_4 ≠ some g0_0 := at1_4.off (by have := b0.lt; omega) ne0
  have b0 := b0.ch h1_4 (by assumption)
  refine W.any (.assign rfl) rfl rfl rfl ?_
  refine W.nil ?_
  refine E.thenN ?_
  refine WC.seq ?_
  refine WC.seq ?_
  refine WC.region ?_
  refine W.any (.move rfl) rfl rfl rfl ?_
  refine W.rd (.len Try.underlying211 rfl) rfl rfl rfl ?_
  refine W.any (.move rfl) rfl rfl rfl ?_
  refine W.nil ?_
  refine E.thenN ?_
  refine WC.block ?_
  refine WC.loop (ι := Nat × Option Addr × Nat) (fun ⟨k, A2, c2⟩ => [(4, .pointer (some ⟨g0_0, 0, none⟩)), (5, .slice A2 (tagTo nm ps k).length c2), (13, .slice A n c), (14, .int .i64 (n : Int)), (15, .int .i64 (k : Int))]) (fun ⟨k, A2, c2⟩ wl => k ≤ n ∧ Le w wl ∧ Own wl w.heap.size 5 1 A2 (tagTo nm ps k).length c2 ((tagTo nm ps k).map u8v) ∧ Blk wl g0_0 89 ((List.replicate 32 0#8).map u8v).toArray ∧ rowOf A2 c2 ≠ some g0_0) (fun ⟨k, A2, c2⟩ => n - k) (0, A1_4, c1_4) ?_ ?_ ?_
  · exact .cons rfl (.cons' rfl (slice_eq (by rw [tagTo_zero]; simp [be8_length, hnl])) (.cons rfl (.cons rfl (.cons rfl (.nil _)))))
  · exact ⟨Nat.zero_le _, L1_4, o1_4.cast (by rw [tagTo_zero]; simp [be8_length, hnl]) (by rw [tagTo_zero, hnm]; simp [hnl]), b0, ne0⟩
  · rintro ⟨k, A2, c2⟩ wl ⟨hk, Ll, ol, b0, ne0⟩
    have hTk : (tagTo nm ps k).length ≤ 1099511627776 := Nat.le_trans (tagTo_le nm ps k) hT
    refine WC.seq ?_
    refine WC.region ?_
    refine W.any (.lss rfl rfl) rfl rfl rfl ?_
    refine W.nil ?_
    refine E.thenN ?_
    refine WC.seq ?_
    refine WC.cond rfl (fun c0 => ?_) (fun c0 => ?_)
    · have hkn : k < n := by omega
      obtain ⟨q, hq⟩ : ∃ q, ps[k]? = some q := ⟨_, List.getElem?_eq_getElem (by omega)⟩
      obtain ⟨v, hv⟩ : ∃ v, vs[k]? = some v := ⟨_, List.getElem?_eq_getElem (by omega)⟩
      obtain ⟨Aq, cq, rfl, hq8⟩ := hP.2 k v q hv hq
      have hsucc := tagTo_succ nm ps k q hq
      have hTk1 : (tagTo nm ps (k + 1)).length ≤ 1099511627776 := Nat.le_trans (tagTo_le nm ps (k + 1)) hT
      have hsl : (tagTo nm ps (k + 1)).length = (tagTo nm ps k).length + 8 + q.length := by rw [hsucc]; simp [be8_length]; omega
      refine WC.skip ?_
      refine E.thenN ?_
      refine WC.seq ?_
      refine WC.block ?_
      refine WC.seq ?_
      refine WC.region ?_
      refine W.any (.idxS1 (k) Try.underlying211 sz107 rfl rfl (hV.isSome hkn (by decide)) (rfl) (by omega)) rfl rfl rfl ?_
      refine W.rd (.loadS na107 rfl (hV.le Ll) (hv)) rfl rfl rfl ?_
      refine W.any (.assign rfl) rfl rfl rfl ?_
      refine W.nil ?_
      refine E.thenN ?_
      refine WC.region ?_
      refine W.any (.move rfl) rfl rfl rfl ?_
      refine W.any (.move rfl) rfl rfl rfl ?_
      refine W.rd (.len Try.underlying107 rfl) rfl rfl rfl ?_
      refine W.ef rfl rfl rfl ?_
      refine Ef.call go126 rfl rfl (long_ok q.length wl ol (by omega) (by omega) Ll.size) ?_
      rintro _ w5_3 ⟨A3, c3, rfl, o3, h5_3, at3⟩
      refine ⟨_, rfl, ?_⟩
      have L5_3 : Le w w5_3 := Ll.then_ h5_3 (fun q hq => (ol.row hq).1)
      have ne0' : rowOf A3 c3 ≠ some g0_0 := at3.off (by have := b0.lt; omega) ne0
      have b0 := b0.ch h5_3 ne0
      refine W.any (.move rfl) rfl rfl rfl ?_
      refine W.ef rfl rfl rfl ?_
      refine Ef.append Try.underlying107 el5 rfl (o3) rfl ((hq8.le L5_3).src Try.underlying107 _) (by omega) (by unfold maxLen; omega) (L5_3.size) ?_
      intro A5_5 c5_5 w5_5 o5_5 h5_5 at5_5
      have L5_5 : Le w w5_5 := L5_3.then_ h5_5 (fun q hq => (o3.row hq).1)
      refine W.any (.assign rfl) rfl rfl rfl ?_
      refine W.nil ?_
      refine E.blkN ?_
      refine E.thenN ?_
      refine WC.region ?_
      refine W.any (.add rfl rfl (by omega)) rfl rfl rfl ?_
      refine W.any (.move rfl) rfl rfl rfl ?_
      refine W.nil ?_
      refine E.again (k + 1, A5_5, c5_5) (.cons rfl (.cons' rfl (slice_eq (by rw [hsucc]; simp [be8_length]; omega)) (.cons rfl (.cons rfl (.cons rfl (.nil _)))))) ?_ ?_
      · exact ⟨by omega, L5_5, o5_5.cast (by rw [hsucc]; simp [be8_length]; omega) (by rw [hsucc]; simp), b0.ch h5_5 ne0', at5_5.off (by have := b0.lt; omega) ne0'⟩
      · first | omega | (simp only []; omega)
    · have hkn : k = n := by omega
      refine WC.exit ?_
      refine E.thenX ?_
      refine E.thenX ?_
      refine E.blkH ?_
      refine E.thenN ?_
      refine WC.seq ?_
      refine WC.region ?_
      refine W.any (.move rfl) rfl rfl rfl ?_
      refine W.ef rfl rfl rfl ?_
      refine Ef.call go73 rfl rfl (sum_ok wl ol.sb (by omega) ol.cap.1) ?_
      rintro _ w7_1 ⟨rfl, h7_1⟩
      refine ⟨_, rfl, ?_⟩
      have L7_1 := Ll.trans h7_1
      refine W.ef0 rfl rfl ?_
      refine Ef.storeAll sz89 (by simp [sum_length]) rfl rfl (b0.le h7_1) (by simp [sum_length]) (all_u8v _) ?_
      intro w7_2 b7_2 h7_2
      have L7_2 : Le w w7_2 := L7_1.then_ h7_2 (fun q hq => by cases hq; exact hg0_0)
      refine W.nil ?_
      refine E.thenN ?_
      refine WC.ret ?_
      refine E.retC rfl rfl b7_2 ag89 (by simp [sum_length]) ?_
      exact ⟨by rw [tag, tagTo_all nm ps k (by omega)], L7_2⟩
end Go.Proofs.Ytfgakofjkldcjaa

namespace Go.Proofs.Ytfgakofjkldcjaa
open Go Go.Sx Go.Hsp
set_option maxRecDepth 20000
theorem one2 (A B : Option Addr) (a b c d : Nat) : ∀ v ∈ [Value.slice A a b, Value.slice B c d], v.oneCell' = true := fun v hv => by
  simp at hv; rcases hv with rfl | rfl <;> rfl
theorem tagLen1 (nm p : List Byte) : (tagBytes nm [p]).length = 16 + nm.length + p.length := by simp [tagBytes, be8_length]; omega
theorem tagLen2 (nm p q : List Byte) : (tagBytes nm [p, q]).length = 24 + nm.length + p.length + q.length := by simp [tagBytes, be8_length]; omega

theorem sums_ok (key : List Byte) (_hk : key.length = 32) (w : World) : Calls Try.prog 145 #[.agg (key.map u8v).toArray] w fun e w' => ∃ g1 g3 : Nat, e = .returned (.func (.func 166) #[] #[.pointer (some ⟨g3, 0, none⟩), .pointer (some ⟨g1, 0, none⟩)]) ∧ Blk w' g3 29 #[.int .u64 (0 : Nat)] ∧ Blk w' g1 89 (key.map u8v).toArray ∧ w.heap.size ≤ g1 ∧ g1 < g3 ∧ Le w w' := by
  refine enter Try.func145 rfl rfl ?_
  have L0 := Le.refl w
  refine WC.seq ?_
  refine WC.region ?_
  refine W.ef rfl rfl rfl ?_
  refine Ef.boxA rfl ?_
  intro g0_0 w0_0 hg0_0 b0_0 h0_0
  have L0_0 := L0.trans h0_0
  refine W.any (.assign rfl) rfl rfl rfl ?_
  refine W.nil ?_
  refine E.thenN ?_
  refine WC.seq ?_
  refine WC.region ?_
  refine W.ef rfl rfl rfl ?_
  refine Ef.alloc z29 ?_
  intro g1_0 w1_0 hg1_0 b1_0 h1_0
  have L1_0 := L0_0.trans h1_0
  refine W.ef0 rfl rfl ?_
  refine Ef.store sz29 rfl rfl (b1_0) (by decide) (rfl) ?_
  intro w1_1 b1_1 h1_1
  have L1_1 : Le w w1_1 := L1_0.then_ h1_1 (fun q hq => by cases hq; exact Nat.le_trans L0_0.size hg1_0)
  refine W.nil ?_
  refine E.thenN ?_
  refine WC.seq ?_
  refine WC.region ?_
  refine W.any (.makeFunc rfl) rfl rfl rfl ?_
  refine W.any (.assign rfl) rfl rfl rfl ?_
  refine W.nil ?_
  refine E.thenN ?_
  refine WC.ret ?_
  refine E.ret1 rfl rfl ?_
  exact ⟨g0_0, g1_0, rfl, b1_1, (b0_0.le h1_0).ch h1_1 (by simp; have := b0_0.lt; omega), hg0_0, by have := b0_0.lt; omega, L1_1⟩

theorem next_ok (key : List Byte) (hk : key.length = 32) (m g1 g3 : Nat) (hm : m < 1000000) (w : World) (hB3 : Blk w g3 29 #[.int .u64 (m : Nat)]) (hB1 : Blk w g1 89 (key.map u8v).toArray) (hne : g1 < g3) : Calls Try.prog 166 #[.pointer (some ⟨g3, 0, none⟩), .pointer (some ⟨g1, 0, none⟩)] w fun e w' => e = .returned (.agg ((tag nStream [key, be8 m]).map u8v).toArray) ∧ Blk w' g3 29 #[.int .u64 (m + 1 : Nat)] ∧ Ch w w' (some g3) := by
  refine enter Try.func166 rfl rfl ?_
  have L0 := Le.refl w
  refine WC.seq ?_
  refine WC.region ?_
  refine W.ef rfl rfl rfl ?_
  refine Ef.allocA z89 ?_
  intro g0_0 w0_0 hg0_0 b0_0 h0_0
  have L0_0 := L0.trans h0_0
  have b0 : Blk w0_0 g0_0 89 ((List.replicate 32 0#8).map u8v).toArray := b0_0
  refine W.nil ?_
  refine E.thenN ?_
  refine WC.seq ?_
  refine WC.region ?_
  refine W.ef rfl rfl rfl ?_
  refine Ef.allocA z230 ?_
  intro g1_0 w1_0 hg1_0 b1_0 h1_0
  have L1_0 := L0_0.trans h1_0
  refine W.nil ?_
  refine E.thenN ?_
  refine WC.seq ?_
  refine WC.seq ?_
  refine WC.region ?_
  refine W.any (.move rfl) rfl rfl rfl ?_
  refine W.nil ?_
  refine E.thenN ?_
  refine WC.block ?_
  refine WC.loop (ι := Nat) (fun k => [(0, .pointer (some ⟨g3, 0, none⟩)), (1, .pointer (some ⟨g1, 0, none⟩)), (2, .pointer (some ⟨g0_0, 0, none⟩)), (3, .pointer (some ⟨g1_0, 0, none⟩)), (5, .int .i64 (k : Int))]) (fun k wl => k ≤ 8 ∧ Le w wl ∧ Blk wl g0_0 89 ((List.replicate 32 0#8).map u8v).toArray ∧ Blk wl g1_0 230 (((be8To m k) ++ List.replicate (8 - k) 0#8).map u8v).toArray) (fun k => 8 - k) 0 ?_ ?_ ?_
  · exact .cons rfl (.cons rfl (.cons rfl (.cons rfl (.cons rfl (.nil _)))))
  · exact ⟨by omega, L1_0, b0.le h1_0, b1_0.cast (by simp [be8To]; rfl)⟩
  · rintro k wl ⟨hk8, Ll, b0, b1⟩
    have hbl : (be8To m k).length = k := by simp [be8To, be8_length]; omega
    refine WC.seq ?_
    refine WC.region ?_
    refine W.any (.lss rfl rfl) rfl rfl rfl ?_
    refine W.nil ?_
    refine E.thenN ?_
    refine WC.seq ?_
    refine WC.cond rfl (fun c0 => ?_) (fun c0 => ?_)
    · refine WC.skip ?_
      refine E.thenN ?_
      refine WC.seq ?_
      refine WC.block ?_
      refine WC.seq ?_
      refine WC.region ?_
      refine W.any (.move rfl) rfl rfl rfl ?_
      refine W.any (.assign rfl) rfl rfl rfl ?_
      refine W.nil ?_
      refine E.thenN ?_
      refine WC.region ?_
      refine W.any (.move rfl) rfl rfl rfl ?_
      refine W.rd (.loadB na29 rfl (hB3.le Ll) (rfl)) rfl rfl rfl ?_
      refine W.any (.move rfl) rfl rfl rfl ?_
      refine W.any (.mul rfl rfl (by omega)) rfl rfl rfl ?_
      refine W.any (.sub rfl rfl (by omega)) rfl rfl rfl ?_
      refine W.any (.shrN m (56 - 8 * k) rfl rfl rfl (by omega) (by show 56 - 8 * k ≤ 64; omega)) rfl rfl rfl ?_
      refine W.rd (.toU8 (m >>> (56 - 8 * k)) (isS Try.underlying29) Try.underlying5 rfl rfl) rfl rfl rfl ?_
      refine W.any (.idxA1 (k) Try.underlying230 sz5 rfl rfl (rfl) (by omega)) rfl rfl rfl ?_
      refine W.ef0 rfl rfl ?_
      refine Ef.store sz5 rfl rfl (b1) (by simp; omega) (rfl) ?_
      intro w5_8 b5_8 h5_8
      have L5_8 : Le w w5_8 := Ll.then_ h5_8 (fun q hq => by cases hq; exact Nat.le_trans L0_0.size hg1_0)
      refine W.nil ?_
      refine E.blkN ?_
      refine E.thenN ?_
      refine WC.region ?_
      refine W.any (.add rfl rfl (by omega)) rfl rfl rfl ?_
      refine W.any (.move rfl) rfl rfl rfl ?_
      refine W.nil ?_
      refine E.again (k + 1) (.cons rfl (.cons rfl (.cons rfl (.cons rfl (.cons rfl (.nil _)))))) ?_ ?_
      · exact ⟨by omega, L5_8, b0.ch h5_8 (by simp; have := b0_0.lt; omega), b5_8.cast (by rw [fill_set u8v (be8To m k) 0#8 _ 8 k hbl (by omega), be8To_succ m k (by omega)])⟩
      · first | omega | (simp only []; omega)
    · have hk8 : k = 8 := by omega
      subst hk8
      have b1 : Blk wl g1_0 230 ((be8 m).map u8v).toArray := b1
      refine WC.exit ?_
      refine E.thenX ?_
      refine E.thenX ?_
      refine E.blkH ?_
      refine E.thenN ?_
      refine WC.seq ?_
      refine WC.region ?_
      refine W.rd (.loadB na29 rfl (hB3.le Ll) (rfl)) rfl rfl rfl ?_
      refine W.any (.addU rfl rfl (by omega)) rfl rfl rfl ?_
      refine W.ef0 rfl rfl ?_
      refine Ef.store sz29 rfl rfl (hB3.le Ll) (by simp) (rfl) ?_
      intro w7_2 b7_2 h7_2
      have bn : Blk w7_2 g3 29 #[.int .u64 (m + 1 : Nat)] := b7_2
      have b0 := b0.ch h7_2 (by simp; have := hB3.lt; omega)
      have b1 := b1.ch h7_2 (by simp; have := hB3.lt; have := L0_0.size; omega)
      have hB1' := (hB1.le Ll).ch h7_2 (by simp; omega)
      have ch : Ch w w7_2 (some g3) := (Ll.ch _).trans h7_2
      have L7 := Le.refl w7_2
      refine W.nil ?_
      refine E.thenN ?_
      refine WC.seq ?_
      refine WC.draw [0, 1, 2, 3, 4] mixed (by kernel_rfl) ?_
      intro w8 d8
      have L8 := L7.trans d8
      refine G.any rfl rfl (.cutArr Try.underlying89 sz5 rfl) rfl rfl rfl ?_
      refine G.any rfl rfl (.cutArr Try.underlying230 sz5 rfl) rfl rfl rfl ?_
      refine G.ef rfl rfl rfl rfl rfl ?_
      refine Ef.buildSliceN [_, _] Try.underlying211 el107 rfl (one2 _ _ _ _ _ _) rfl (by decide) (by decide) ?_
      intro g8_2 w8_2 hg8_2 b8_2 h8_2
      have L8_2 := L8.trans h8_2
      refine ⟨fun _ => h8_2, ?_⟩
      refine G.ef rfl rfl rfl rfl rfl ?_
      refine Ef.call go107 rfl rfl (tag_ok _ nStream w8_2 (ps := [key, be8 m]) rfl (b8_2.sl (s := 1) (n := 2) rfl) (.cons ((hB1'.le (d8.trans h8_2)).sb hk) (.cons ((b1.le (d8.trans h8_2)).sb rfl) (.nil _))) (by rw [tagLen2, hk, be8_length]; decide)) ?_
      rintro _ w8_3 ⟨rfl, h8_3⟩
      refine ⟨_, rfl, ?_⟩
      have L8_3 := L8_2.trans h8_3
      refine ⟨fun _ => h8_3, ?_⟩
      refine G.ef0 rfl rfl rfl rfl ?_
      refine Ef.storeAll sz89 (by simp [tag_length]) rfl rfl (((b0.le d8).le h8_2).le h8_3) (by simp [tag_length]) (all_u8v _) ?_
      intro w8_4 b8_4 h8_4
      refine ⟨fun h => absurd h (ne_true_of_eq_false (by kernel_rfl)), ?_⟩
      refine G.nil ?_
      refine E.thenN ?_
      refine WC.ret ?_
      refine E.retC rfl rfl b8_4 ag89 (by simp [tag_length]) ?_
      exact ⟨rfl, (bn.le (d8.trans (h8_2.trans h8_3))).ch h8_4 (by simp; have := hB3.lt; omega), (ch.trans ((d8.trans (h8_2.trans h8_3)).ch _)).then_ h8_4 (fun q hq => .inl (by cases hq; exact hg0_0))⟩

set_option maxHeartbeats 400000 in
theorem stream_ok (key : List Byte) (hk : key.length = 32) (n : Nat) (hn : n ≤ 65536) (w : World) : Calls Try.prog 106 #[.agg (key.map u8v).toArray, .int .i64 (n : Int)] w fun e w' => ∃ A c, e = .returned (.slice A n c) ∧ Own w' w.heap.size 5 1 A n c ((stream key n).map u8v) ∧ Le w w' := by
  refine enter Try.func106 rfl rfl ?_
  have L0 := Le.refl w
  refine WC.seq ?_
  refine WC.region ?_
  refine W.ef rfl rfl rfl ?_
  refine Ef.boxA rfl ?_
  intro g0_0 w0_0 hg0_0 b0_0 h0_0
  have L0_0 := L0.trans h0_0
  refine W.any (.assign rfl) rfl rfl rfl ?_
  refine W.nil ?_
  refine E.thenN ?_
  refine WC.seq ?_
  refine WC.seq ?_
  refine WC.region ?_
  refine W.any (.move rfl) rfl rfl rfl ?_
  refine W.any (.lss rfl rfl) rfl rfl rfl ?_
  refine W.any (.move rfl) rfl rfl rfl ?_
  refine W.rdg (Any.rd (.move rfl) _) rfl rfl rfl (decide_eq_false (by omega)) rfl rfl ?_
  refine W.rdg (Any.rd (.gtr rfl rfl) _) rfl rfl rfl (decide_eq_false (by omega)) rfl rfl ?_
  refine W.any (.pickF rfl (decide_eq_false (by omega)) rfl) rfl rfl rfl ?_
  refine W.nil ?_
  refine E.thenN ?_
  refine WC.condB rfl (fun h => absurd h (by simp; omega)) (fun _ => ?_)
  refine WC.skip ?_
  refine E.thenN ?_
  refine WC.seq ?_
  refine WC.region ?_
  refine W.any (.move rfl) rfl rfl rfl ?_
  refine W.any (.add rfl rfl (by omega)) rfl rfl rfl ?_
  refine W.ef rfl rfl rfl ?_
  refine Ef.makeSlice 0 (n + 32) Try.underlying107 el5 rfl rfl rfl (by omega) (by omega) (by omega) (by unfold maxLen; omega) ?_
  intro g3_2 w3_2 hg3_2 b3_2 h3_2
  have L3_2 := L0_0.trans h3_2
  have o3 : Own w3_2 w.heap.size 5 1 (some ⟨g3_2, 0, none⟩) 0 (n + 32) ((streamTo key 0).map u8v) := (b3_2.own_ (n := 0) (Nat.le_trans L0_0.size hg3_2) (by omega) (by simp [size_madeCells]) (by unfold maxLen; omega)).cast rfl (by simp [streamTo])
  refine W.any (.assign rfl) rfl rfl rfl ?_
  refine W.nil ?_
  refine E.thenN ?_
  refine WC.seq ?_
  refine WC.seq ?_
  refine WC.region ?_
  refine W.rd (.loadAll ag89 (by simp [hk]) rfl (b0_0.le h3_2)) rfl rfl rfl ?_
  refine W.ef rfl rfl rfl ?_
  refine Ef.call go145 rfl rfl (sums_ok key hk w3_2) ?_
  rintro _ w4_1 ⟨g1, g3, rfl, B3, B1, hg1, hg13, h4_1⟩
  refine ⟨_, rfl, ?_⟩
  have L4_1 := L3_2.trans h4_1
  refine W.any (.assign rfl) rfl rfl rfl ?_
  refine W.nil ?_
  refine E.thenN ?_
  refine WC.block ?_
  refine WC.loop (ι := Nat × Option Addr × Nat) (fun ⟨j, A1, c1⟩ => [(1, .int .i64 (n : Int)), (5, .slice A1 (32 * j) c1), (6, .func (.func 166) #[] #[.pointer (some ⟨g3, 0, none⟩), .pointer (some ⟨g1, 0, none⟩)])]) (fun ⟨j, A1, c1⟩ wl => j ≤ (n + 31) / 32 ∧ Le w wl ∧ Own wl w.heap.size 5 1 A1 (32 * j) c1 ((streamTo key j).map u8v) ∧ Blk wl g3 29 #[.int .u64 (j : Nat)] ∧ Blk wl g1 89 (key.map u8v).toArray ∧ rowOf A1 c1 ≠ some g3 ∧ rowOf A1 c1 ≠ some g1) (fun ⟨j, A1, c1⟩ => (n + 31) / 32 - j) (0, some ⟨g3_2, 0, none⟩, n + 32) ?_ ?_ ?_
  · exact .cons rfl (.cons rfl (.cons rfl (.nil _)))
  · exact ⟨Nat.zero_le _, L4_1, o3.le h4_1, B3, B1, fun he => by have := rowOf_lit he; have := b3_2.lt; omega, fun he => by have := rowOf_lit he; have := b3_2.lt; omega⟩
  · rintro ⟨j, A1, c1⟩ wl ⟨hj, Ll, ol, B3, B1, n3, n1⟩
    refine WC.seq ?_
    refine WC.seq ?_
    refine WC.region ?_
    refine W.any (.move rfl) rfl rfl rfl ?_
    refine W.rd (.len Try.underlying107 rfl) rfl rfl rfl ?_
    refine W.any (.move rfl) rfl rfl rfl ?_
    refine W.any (.lss rfl rfl) rfl rfl rfl ?_
    refine W.nil ?_
    refine E.thenN ?_
    refine WC.cond rfl (fun hq1 => ?_) (fun hq1 => ?_)
    · refine WC.skip ?_
      refine E.thenN ?_
      refine WC.block ?_
      refine WC.seq ?_
      refine WC.region ?_
      refine W.any (.move rfl) rfl rfl rfl ?_
      refine W.ef rfl rfl rfl ?_
      refine Ef.callC go166 rfl rfl rfl (next_ok key hk j g1 g3 (by omega) wl B3 B1 hg13) ?_
      rintro _ w6_1 ⟨rfl, Q3, h6_1⟩
      refine ⟨_, rfl, ?_⟩
      have L6_1 : Le w w6_1 := Ll.then_ h6_1 (fun q hq => by cases hq; have := h3_2.size; have := L0_0.size; omega)
      have ol1 := ol.ch h6_1 (fun q hq => by cases hq; exact n3)
      have Q1 := B1.ch h6_1 (by simp; omega)
      refine W.ef rfl rfl rfl ?_
      refine Ef.allocA z89 ?_
      intro g6_2 w6_2 hg6_2 b6_2 h6_2
      have L6_2 := L6_1.trans h6_2
      refine W.ef0 rfl rfl ?_
      refine Ef.storeAll sz89 (by simp [tag_length]) rfl rfl (b6_2) (by simp [tag_length]) (all_u8v _) ?_
      intro w6_3 b6_3 h6_3
      have L6_3 : Le w w6_3 := L6_2.then_ h6_3 (fun q hq => by cases hq; exact Nat.le_trans L6_1.size hg6_2)
      have Q3 := (Q3.le h6_2).ch h6_3 (by simp; have := Q3.lt; omega)
      have Q1 := (Q1.le h6_2).ch h6_3 (by simp; have := Q1.lt; omega)
      have ol2 := (ol1.le h6_2).ch h6_3 (fun q hq => by cases hq; exact fun he => by have := (ol1.row he).2; omega)
      refine W.nil ?_
      refine E.thenN ?_
      refine WC.region ?_
      refine W.any (.move rfl) rfl rfl rfl ?_
      refine W.any (.cutArr Try.underlying89 sz5 rfl) rfl rfl rfl ?_
      refine W.ef rfl rfl rfl ?_
      refine Ef.append Try.underlying107 el5 rfl (ol2) rfl ((b6_3.sb (tag_length _ _)).src Try.underlying107 _) (by omega) (by unfold maxLen; omega) (L6_3.size) ?_
      intro A7_2 c7_2 w7_2 o7_2 h7_2 at7_2
      have L7_2 : Le w w7_2 := L6_3.then_ h7_2 (fun q hq => (ol2.row hq).1)
      refine W.any (.assign rfl) rfl rfl rfl ?_
      refine W.nil ?_
      refine E.blkN ?_
      refine E.again (j + 1, A7_2, c7_2) (.cons rfl (.cons' rfl (slice_eq (by omega)) (.cons rfl (.nil _)))) ?_ ?_
      · exact ⟨by omega, L7_2, o7_2.cast (by omega) (by rw [streamTo_succ, List.map_append]), Q3.ch h7_2 n3, Q1.ch h7_2 n1, at7_2.off Q3.lt n3, at7_2.off Q1.lt n1⟩
      · first | omega | (simp only []; omega)
    · have hjn : j = (n + 31) / 32 := by omega
      subst hjn
      refine WC.exit ?_
      refine E.thenX ?_
      refine E.thenX ?_
      refine E.blkH ?_
      refine E.thenN ?_
      refine WC.seq ?_
      refine WC.region ?_
      refine W.any (.move rfl) rfl rfl rfl ?_
      refine W.any (.move rfl) rfl rfl rfl ?_
      refine W.any (.cutH (n) Try.underlying107 sz5 rfl rfl (rfl) (by have := ol.cap.1; omega)) rfl rfl rfl ?_
      refine W.any (.assign rfl) rfl rfl rfl ?_
      refine W.nil ?_
      refine E.thenN ?_
      refine WC.ret ?_
      refine E.ret1 rfl rfl ?_
      exact ⟨A1, c1, rfl, (ol.front n (by omega)).cast rfl (by simp only [Hsp.stream, Nat.mul_one, List.map_take]), Ll⟩










end Go.Proofs.Ytfgakofjkldcjaa

namespace Go.Proofs.Ytfgakofjkldcjaa
open Go Go.Sx
theorem fa33_0 : Fat Try.prog 33 0 0 := ⟨_, _, _, Try.underlying33, rfl, rfl, sz3, by decide⟩
theorem fa33_1 : Fat Try.prog 33 1 1 := ⟨_, _, _, Try.underlying33, rfl, rfl, sz3, by decide⟩
theorem fa33_2 : Fat Try.prog 33 2 2 := ⟨_, _, _, Try.underlying33, rfl, rfl, sz3, by decide⟩
theorem fa33_3 : Fat Try.prog 33 3 3 := ⟨_, _, _, Try.underlying33, rfl, rfl, sz3, by decide⟩
theorem fa33_4 : Fat Try.prog 33 4 4 := ⟨_, _, _, Try.underlying33, rfl, rfl, sz31, by decide⟩
theorem fa33_5 : Fat Try.prog 33 5 5 := ⟨_, _, _, Try.underlying33, rfl, rfl, sz30, by decide⟩
theorem pl33 : Pls Try.prog 33 [(0, 1), (1, 1), (2, 1), (3, 1), (4, 1), (5, 1)] := ⟨_, Try.underlying33, fun w => by simp [sz3.run, sz30.run, sz31.run]⟩
theorem fa57_1 : Fat Try.prog 57 1 1 := ⟨_, _, _, Try.underlying57, rfl, rfl, sz3, by decide⟩
theorem fa57_2 : Fat Try.prog 57 2 2 := ⟨_, _, _, Try.underlying57, rfl, rfl, sz30, by decide⟩
theorem pl57 : Pls Try.prog 57 [(0, 1), (1, 1), (2, 1)] := ⟨_, Try.underlying57, fun w => by simp [sz3.run, sz30.run]⟩
theorem fa95_0 : Fat Try.prog 95 0 0 := ⟨_, _, _, Try.underlying95, rfl, rfl, sz3, by decide⟩
theorem fa95_1 : Fat Try.prog 95 1 1 := ⟨_, _, _, Try.underlying95, rfl, rfl, sz3, by decide⟩
theorem fa95_2 : Fat Try.prog 95 2 2 := ⟨_, _, _, Try.underlying95, rfl, rfl, sz3, by decide⟩
theorem fa95_3 : Fat Try.prog 95 3 3 := ⟨_, _, _, Try.underlying95, rfl, rfl, sz3, by decide⟩
theorem fa95_4 : Fat Try.prog 95 4 4 := ⟨_, _, _, Try.underlying95, rfl, rfl, sz31, by decide⟩
theorem fa95_5 : Fat Try.prog 95 5 5 := ⟨_, _, _, Try.underlying95, rfl, rfl, sz30, by decide⟩
theorem pl95 : Pls Try.prog 95 [(0, 1), (1, 1), (2, 1), (3, 1), (4, 1), (5, 1)] := ⟨_, Try.underlying95, fun w => by simp [sz3.run, sz30.run, sz31.run]⟩
theorem fa117_0 : Fat Try.prog 117 0 0 := ⟨_, _, _, Try.underlying117, rfl, rfl, sz114, by decide⟩
theorem fa117_1 : Fat Try.prog 117 1 1 := ⟨_, _, _, Try.underlying117, rfl, rfl, sz115, by decide⟩
theorem pl117 : Pls Try.prog 117 [(0, 1), (1, 1)] := ⟨_, Try.underlying117, fun w => by simp [sz114.run, sz115.run]⟩
theorem fa126_0 : Fat Try.prog 126 0 0 := ⟨_, _, _, Try.underlying126, rfl, rfl, sz30, by decide⟩
theorem fa126_1 : Fat Try.prog 126 1 1 := ⟨_, _, _, Try.underlying126, rfl, rfl, sz3, by decide⟩
theorem fa126_2 : Fat Try.prog 126 2 2 := ⟨_, _, _, Try.underlying126, rfl, rfl, sz3, by decide⟩
theorem fa126_3 : Fat Try.prog 126 3 3 := ⟨_, _, _, Try.underlying126, rfl, rfl, sz3, by decide⟩
theorem fa126_4 : Fat Try.prog 126 4 4 := ⟨_, _, _, Try.underlying126, rfl, rfl, sz46, by decide⟩
theorem fa126_5 : Fat Try.prog 126 5 5 := ⟨_, _, _, Try.underlying126, rfl, rfl, sz3, by decide⟩
theorem fa126_6 : Fat Try.prog 126 6 6 := ⟨_, _, _, Try.underlying126, rfl, rfl, sz4, by decide⟩
theorem fa126_7 : Fat Try.prog 126 7 7 := ⟨_, _, _, Try.underlying126, rfl, rfl, sz4, by decide⟩
theorem pl126 : Pls Try.prog 126 [(0, 1), (1, 1), (2, 1), (3, 1), (4, 1), (5, 1), (6, 1), (7, 1)] := ⟨_, Try.underlying126, fun w => by simp [sz3.run, sz4.run, sz30.run, sz46.run]⟩
theorem pl135 : Pls Try.prog 135 [(0, 1), (1, 1)] := ⟨_, Try.underlying135, fun w => by simp [sz3.run]⟩
theorem fa179_0 : Fat Try.prog 179 0 0 := ⟨_, _, _, Try.underlying179, rfl, rfl, sz31, by decide⟩
theorem fa179_1 : Fat Try.prog 179 1 1 := ⟨_, _, _, Try.underlying179, rfl, rfl, sz89, by decide⟩
end Go.Proofs.Ytfgakofjkldcjaa

namespace Go.Proofs.Ytfgakofjkldcjaa
open Go Go.Sx Go.Hsp Go.Num Go.Osp
set_option maxRecDepth 20000
def hopV (h : Hop) : List Value := [.int .i64 h.1, .int .i64 h.2.1, .int .i64 h.2.2.1, .int .i64 h.2.2.2.1, .int .u64 (h.2.2.2.2.1 : Nat), .int .u64 (h.2.2.2.2.2 : Nat)]
def stopV (s : Stop) : List Value := .int .u64 (s.1 : Nat) :: s.2.map u8v
theorem stopV_length (s : Stop) (h : s.2.length = 32) : (stopV s).length = 33 := by simp [stopV, h]
theorem hopV_one (h : Hop) : ∀ u ∈ hopV h, u.oneCell' = true := fun u hu => by simp [hopV] at hu; rcases hu with rfl | rfl | rfl | rfl | rfl | rfl <;> rfl
theorem stopV_one (s : Stop) : ∀ u ∈ stopV s, u.oneCell' = true := fun u hu => by
  simp only [stopV, List.mem_cons] at hu
  rcases hu with rfl | hu
  · rfl
  · exact all_u8v _ u hu
theorem stopV_at (s : Stop) : ∀ i u, (s.2.map u8v)[i]? = some u → (stopV s).toArray[1 + i]? = some u := fun i u hu => by
  rw [Nat.add_comm]; simpa [stopV] using hu
theorem wrap_usg (i : Int) : IntKind.u64.wrap i = ((usg i : Nat) : Int) := by rw [wrap_u64]; unfold usg; omega
theorem wrap_sgn (m : Nat) (hm : m < 18446744073709551616) : IntKind.i64.wrap (m : Int) = sgn m := by
  rw [IntKind.wrap_i64]; unfold sgn
  split <;> omega
theorem numTo_snoc (xs : List Byte) (k n : Nat) (b : Byte) (h : xs[k]? = some b) : numTo n (xs.take (k + 1)) = numTo n (xs.take k) * 256 + b.toNat := by
  have ap : ∀ (l m : List Byte) (n : Nat), numTo n (l ++ m) = numTo (numTo n l) m := by
    intro l
    induction l with
    | nil => intro m n; rfl
    | cons c l ih => intro m n; exact ih m _
  rw [List.take_add_one, h, ap]
  rfl
theorem flatten_snoc (ps : List (List Byte)) (k : Nat) (q : List Byte) (h : ps[k]? = some q) : (ps.take (k + 1)).flatten = (ps.take k).flatten ++ q := by
  rw [List.take_add_one, h]; simp
theorem flatten_take_le : ∀ (ps : List (List Byte)) (k : Nat), (ps.take k).flatten.length ≤ ps.flatten.length
  | [], k => by simp
  | p :: ps, 0 => by simp
  | p :: ps, k + 1 => by
    have := flatten_take_le ps k
    simp only [List.take_succ_cons, List.flatten_cons, List.length_append]; omega
theorem eight_ok (m : Nat) (w : World) : Calls Try.prog 115 #[.int .u64 ((m : Nat) : Int)] w fun e w' => ∃ g, e = .returned (.slice (some ⟨g, 0, none⟩) 8 8) ∧ w.heap.size ≤ g ∧ Blk w' g 5 ((be8 m).map u8v).toArray ∧ Le w w' := by
  refine enter Try.func115 rfl rfl ?_
  have L0 := Le.refl w
  refine WC.seq ?_
  refine WC.region ?_
  refine W.any (.assign rfl) rfl rfl rfl ?_
  refine W.nil ?_
  refine E.thenN ?_
  refine WC.seq ?_
  refine WC.region ?_
  refine W.ef rfl rfl rfl ?_
  refine Ef.makeSlice 8 8 Try.underlying107 el5 rfl rfl rfl rfl (by decide) (by decide) (by decide) ?_
  intro g1_0 w1_0 hg1_0 b1_0 h1_0
  have L1_0 := L0.trans h1_0
  refine W.any (.assign rfl) rfl rfl rfl ?_
  refine W.nil ?_
  refine E.thenN ?_
  refine WC.seq ?_
  refine WC.seq ?_
  refine WC.region ?_
  refine W.any (.move rfl) rfl rfl rfl ?_
  refine W.rd (.len Try.underlying107 rfl) rfl rfl rfl ?_
  refine W.any (.move rfl) rfl rfl rfl ?_
  refine W.nil ?_
  refine E.thenN ?_
  refine WC.block ?_
  refine WC.loop (ι := Nat) (fun k => [(0, .int .u64 ((m : Nat) : Int)), (3, .slice (some ⟨g1_0, 0, none⟩) 8 8), (7, .int .i64 8), (8, .int .i64 (k : Int))]) (fun k wl => k ≤ 8 ∧ Le w wl ∧ Blk wl g1_0 5 (((be8To m k) ++ List.replicate (8 - k) 0#8).map u8v).toArray) (fun k => 8 - k) 0 ?_ ?_ ?_
  · exact .cons rfl (.cons rfl (.cons rfl (.cons rfl (.nil _))))
  · exact ⟨by omega, L1_0, b1_0.cast (made_u8 8)⟩
  · rintro k wl ⟨hk8, Ll, b1⟩
    have hbl : (be8To m k).length = k := by simp [be8To, be8_length]; omega
    refine WC.seq ?_
    refine WC.region ?_
    refine W.any (.lss rfl rfl) rfl rfl rfl ?_
    refine W.nil ?_
    refine E.thenN ?_
    refine WC.seq ?_
    refine WC.cond rfl (fun c0 => ?_) (fun c0 => ?_)
    · refine WC.skip ?_
      refine E.thenN ?_
      refine WC.seq ?_
      refine WC.block ?_
      refine WC.seq ?_
      refine WC.region ?_
      refine W.any (.move rfl) rfl rfl rfl ?_
      refine W.any (.assign rfl) rfl rfl rfl ?_
      refine W.nil ?_
      refine E.thenN ?_
      refine WC.region ?_
      refine W.any (.move rfl) rfl rfl rfl ?_
      refine W.any (.move rfl) rfl rfl rfl ?_
      refine W.any (.move rfl) rfl rfl rfl ?_
      refine W.any (.move rfl) rfl rfl rfl ?_
      refine W.any (.mul rfl rfl (by omega)) rfl rfl rfl ?_
      refine W.any (.sub rfl rfl (by omega)) rfl rfl rfl ?_
      refine W.any (.shrN m (56 - 8 * k) rfl rfl rfl (by omega) (by show 56 - 8 * k ≤ 64; omega)) rfl rfl rfl ?_
      refine W.rd (.toU8 (m >>> (56 - 8 * k)) (isS Try.underlying29) Try.underlying5 rfl rfl) rfl rfl rfl ?_
      refine W.any (.idxB1 (k) Try.underlying107 sz5 rfl rfl (rfl) (by omega)) rfl rfl rfl ?_
      refine W.ef0 rfl rfl ?_
      refine Ef.store sz5 rfl rfl (b1) (by simp; omega) (rfl) ?_
      intro w5_9 b5_9 h5_9
      have L5_9 : Le w w5_9 := Ll.then_ h5_9 (fun q hq => by cases hq; exact hg1_0)
      refine W.nil ?_
      refine E.blkN ?_
      refine E.thenN ?_
      refine WC.region ?_
      refine W.any (.add rfl rfl (by omega)) rfl rfl rfl ?_
      refine W.any (.move rfl) rfl rfl rfl ?_
      refine W.nil ?_
      refine E.again (k + 1) (.cons rfl (.cons rfl (.cons rfl (.cons rfl (.nil _))))) ?_ ?_
      · exact ⟨by omega, L5_9, b5_9.cast (by rw [fill_set u8v (be8To m k) 0#8 _ 8 k hbl (by omega), be8To_succ m k (by omega)])⟩
      · first | omega | (simp only []; omega)
    · have hk8 : k = 8 := by omega
      subst hk8
      have b1 : Blk wl g1_0 5 ((be8 m).map u8v).toArray := b1
      refine WC.exit ?_
      refine E.thenX ?_
      refine E.thenX ?_
      refine E.blkH ?_
      refine E.thenN ?_
      refine WC.seq ?_
      refine WC.region ?_
      refine W.any (.move rfl) rfl rfl rfl ?_
      refine W.any (.assign rfl) rfl rfl rfl ?_
      refine W.nil ?_
      refine E.thenN ?_
      refine WC.ret ?_
      refine E.ret1 rfl rfl ?_
      exact ⟨g1_0, rfl, hg1_0, b1, Ll⟩

theorem number_ok {A : Option Addr} {n c : Nat} {xs : List Byte} (w : World) (hS : Sb w A n xs) (h8 : 8 ≤ n) (hc : n ≤ c) : Calls Try.prog 116 #[.slice A n c] w fun e w' => e = .returned (.int .u64 ((numB xs : Nat) : Int)) ∧ Le w w' := by
  have hl := hS.len
  refine enter Try.func116 rfl rfl ?_
  have L0 := Le.refl w
  refine WC.seq ?_
  refine WC.region ?_
  refine W.any (.assign rfl) rfl rfl rfl ?_
  refine W.nil ?_
  refine E.thenN ?_
  refine WC.seq ?_
  refine WC.seq ?_
  refine WC.region ?_
  refine W.any (.move rfl) rfl rfl rfl ?_
  refine W.any (.cutH (8) Try.underlying107 sz5 rfl rfl (rfl) (by omega)) rfl rfl rfl ?_
  refine W.rd (.len Try.underlying107 rfl) rfl rfl rfl ?_
  refine W.any (.move rfl) rfl rfl rfl ?_
  refine W.nil ?_
  refine E.thenN ?_
  refine WC.block ?_
  refine WC.loop (ι := Nat) (fun k => [(2, .int .u64 ((numTo 0 (xs.take k) : Nat) : Int)), (6, .slice A 8 c), (7, .int .i64 8), (8, .int .i64 (k : Int))]) (fun k wl => k ≤ 8 ∧ Le w wl) (fun k => 8 - k) 0 ?_ ?_ ?_
  · exact .cons rfl (.cons rfl (.cons rfl (.cons rfl (.nil _))))
  · exact ⟨by omega, L0⟩
  · rintro k wl ⟨hk, Ll⟩
    refine WC.seq ?_
    refine WC.region ?_
    refine W.any (.lss rfl rfl) rfl rfl rfl ?_
    refine W.nil ?_
    refine E.thenN ?_
    refine WC.seq ?_
    refine WC.cond rfl (fun c0 => ?_) (fun c0 => ?_)
    · have hb : xs[k]? = some (xs.getD k 0) := by rw [List.getElem?_eq_getElem (by omega), List.getD_eq_getElem?_getD, List.getElem?_eq_getElem (by omega)]; rfl
      have hbl := (xs.getD k 0).isLt
      have hnl : numTo 0 (xs.take k) < 256 ^ 7 := by
        have h1 := numTo_lt (xs.take k) 0 0 (by decide)
        exact Nat.lt_of_lt_of_le h1 (Nat.pow_le_pow_right (by decide) (by rw [List.length_take]; omega))
      have hnl' : numTo 0 (xs.take k) < 72057594037927936 := hnl
      refine WC.skip ?_
      refine E.thenN ?_
      refine WC.seq ?_
      refine WC.block ?_
      refine WC.seq ?_
      refine WC.region ?_
      refine W.any (.idxS1 (k) Try.underlying107 sz5 rfl rfl (hS.isSome (by omega)) (rfl) (by omega)) rfl rfl rfl ?_
      refine W.rd (.loadS na5 rfl (hS.le Ll) (getb xs (by omega))) rfl rfl rfl ?_
      refine W.any (.assign rfl) rfl rfl rfl ?_
      refine W.nil ?_
      refine E.thenN ?_
      refine WC.region ?_
      refine W.any (.move rfl) rfl rfl rfl ?_
      refine W.any (.shlN (numTo 0 (xs.take k)) (8) (numTo 0 (xs.take k) * 256) rfl rfl rfl rfl (by decide) (by omega)) rfl rfl rfl ?_
      refine W.any (.move rfl) rfl rfl rfl ?_
      refine W.rd (.u8to64 (isS Try.underlying5) Try.underlying29 rfl) rfl rfl rfl ?_
      refine W.any (.orE (numTo 0 (xs.take k) * 256) ((xs.getD k 0).toNat) (numTo 0 (xs.take k) * 256 + (xs.getD k 0).toNat) rfl rfl rfl rfl (by omega) (by omega) (or_byte _ _ hbl)) rfl rfl rfl ?_
      refine W.any (.assign rfl) rfl rfl rfl ?_
      refine W.nil ?_
      refine E.blkN ?_
      refine E.thenN ?_
      refine WC.region ?_
      refine W.any (.add rfl rfl (by omega)) rfl rfl rfl ?_
      refine W.any (.move rfl) rfl rfl rfl ?_
      refine W.nil ?_
      refine E.again (k + 1) (.cons' rfl (int_eq (congrArg Nat.cast (by rw [numTo_snoc xs k 0 _ hb]))) (.cons rfl (.cons rfl (.cons rfl (.nil _))))) ?_ ?_
      · exact ⟨by omega, Ll⟩
      · first | omega | (simp only []; omega)
    · have hk8 : k = 8 := by omega
      subst hk8
      refine WC.exit ?_
      refine E.thenX ?_
      refine E.thenX ?_
      refine E.blkH ?_
      refine E.thenN ?_
      refine WC.seq ?_
      refine WC.region ?_
      refine W.any (.move rfl) rfl rfl rfl ?_
      refine W.any (.assign rfl) rfl rfl rfl ?_
      refine W.nil ?_
      refine E.thenN ?_
      refine WC.ret ?_
      refine E.ret1 rfl rfl ?_
      exact ⟨rfl, Ll⟩

theorem xor_ok {A B : Option Addr} {n c c' : Nat} {xs ys : List Byte} (w : World) (hS : Sb w A n xs) (hT : Sb w B n ys) (hn : n ≤ 1000000) : Calls Try.prog 109 #[.slice A n c, .slice B n c'] w fun e w' => ∃ A' c', e = .returned (.slice A' n c') ∧ Own w' w.heap.size 5 1 A' n c' ((xorB xs ys).map u8v) ∧ Le w w' := by
  have hl := hS.len
  have hl2 := hT.len
  refine enter Try.func109 rfl rfl ?_
  have L0 := Le.refl w
  refine WC.seq ?_
  refine WC.region ?_
  refine W.any (.assign rfl) rfl rfl rfl ?_
  refine W.nil ?_
  refine E.thenN ?_
  refine WC.seq ?_
  refine WC.region ?_
  refine W.any (.move rfl) rfl rfl rfl ?_
  refine W.ef rfl rfl rfl ?_
  refine Ef.call go125 rfl rfl (clone_ok w hS (by omega)) ?_
  rintro _ w1_1 ⟨A1, c1, rfl, o1, h1_1⟩
  refine ⟨_, rfl, ?_⟩
  have L1_1 := L0.trans h1_1
  refine W.any (.assign rfl) rfl rfl rfl ?_
  refine W.nil ?_
  refine E.thenN ?_
  refine WC.seq ?_
  refine WC.seq ?_
  refine WC.region ?_
  refine W.any (.move rfl) rfl rfl rfl ?_
  refine W.rd (.len Try.underlying107 rfl) rfl rfl rfl ?_
  refine W.any (.move rfl) rfl rfl rfl ?_
  refine W.nil ?_
  refine E.thenN ?_
  refine WC.block ?_
  refine WC.loop (ι := Nat) (fun k => [(1, .slice B n c'), (5, .slice A1 n c1), (10, .int .i64 (n : Int)), (11, .int .i64 (k : Int))]) (fun k wl => k ≤ n ∧ Le w wl ∧ Own wl w.heap.size 5 1 A1 n c1 ((overTo xs ys k).map u8v)) (fun k => n - k) 0 ?_ ?_ ?_
  · exact .cons rfl (.cons rfl (.cons rfl (.cons rfl (.nil _))))
  · exact ⟨Nat.zero_le _, L1_1, o1.cast rfl (by rw [overTo_zero])⟩
  · rintro k wl ⟨hkn, Ll, ol⟩
    have hol := overTo_length xs ys k (by omega) (by omega)
    refine WC.seq ?_
    refine WC.region ?_
    refine W.any (.lss rfl rfl) rfl rfl rfl ?_
    refine W.nil ?_
    refine E.thenN ?_
    refine WC.seq ?_
    refine WC.cond rfl (fun c0 => ?_) (fun c0 => ?_)
    · obtain ⟨gA, hA1, hgA1, hgA2, hrow⟩ := ol.lit (by omega)
      subst hA1
      refine WC.skip ?_
      refine E.thenN ?_
      refine WC.seq ?_
      refine WC.block ?_
      refine WC.seq ?_
      refine WC.region ?_
      refine W.any (.move rfl) rfl rfl rfl ?_
      refine W.any (.assign rfl) rfl rfl rfl ?_
      refine W.nil ?_
      refine E.thenN ?_
      refine WC.draw [0, 1, 2, 3, 4, 5, 6, 7, 8, 9, 10] mixed (by kernel_rfl) ?_
      intro w5 d5
      have L5 := Ll.trans d5
      refine G.any rfl rfl (.move rfl) rfl rfl rfl ?_
      refine G.any rfl rfl (.move rfl) rfl rfl rfl ?_
      refine G.any rfl rfl (.idxB1 (k) Try.underlying107 sz5 rfl rfl (rfl) (by omega)) rfl rfl rfl ?_
      refine G.rd rfl rfl (.load na5 rfl (((ol.le d5).sl.2 k _ (getb _ (by omega))).elim fun ad h => by obtain ⟨h1, h2⟩ := h; injection h1 with h1; subst h1; rw [add_lit, Nat.zero_add] at h2; exact h2)) rfl rfl rfl ?_
      refine G.any rfl rfl (.move rfl) rfl rfl rfl ?_
      refine G.any rfl rfl (.move rfl) rfl rfl rfl ?_
      refine G.any rfl rfl (.idxS1 (k) Try.underlying107 sz5 rfl rfl (hT.isSome (by omega)) (rfl) (by omega)) rfl rfl rfl ?_
      refine G.rd rfl rfl (.loadS na5 rfl (hT.le L5) (getb ys (by omega))) rfl rfl rfl ?_
      refine G.any rfl rfl (.xor8 rfl rfl) rfl rfl rfl ?_
      refine G.any rfl rfl (.idxB1 (k) Try.underlying107 sz5 rfl rfl (rfl) (by omega)) rfl rfl rfl ?_
      refine G.ef0 rfl rfl rfl rfl ?_
      refine Ef.storeO sz5 rfl rfl (ol.le d5) (by omega) (rfl) ?_
      intro w5_10 o5_10 h5_10
      have L5_10 : Le w w5_10 := L5.then_ h5_10 (fun q hq => by cases hq; exact hgA1)
      refine ⟨fun h => absurd h (ne_true_of_eq_false (by kernel_rfl)), ?_⟩
      refine G.nil ?_
      refine E.blkN ?_
      refine E.thenN ?_
      refine WC.region ?_
      refine W.any (.add rfl rfl (by omega)) rfl rfl rfl ?_
      refine W.any (.move rfl) rfl rfl rfl ?_
      refine W.nil ?_
      refine E.again (k + 1) (.cons rfl (.cons rfl (.cons rfl (.cons rfl (.nil _))))) ?_ ?_
      · exact ⟨by omega, L5_10, o5_10.cast rfl (by rw [← overTo_succ xs ys k (by omega) (by omega), overTo_at xs ys k (by omega) (by omega), List.map_set])⟩
      · first | omega | (simp only []; omega)
    · have hkn : k = n := by omega
      subst hkn
      refine WC.exit ?_
      refine E.thenX ?_
      refine E.thenX ?_
      refine E.blkH ?_
      refine E.thenN ?_
      refine WC.seq ?_
      refine WC.region ?_
      refine W.any (.move rfl) rfl rfl rfl ?_
      refine W.any (.assign rfl) rfl rfl rfl ?_
      refine W.nil ?_
      refine E.thenN ?_
      refine WC.ret ?_
      refine E.ret1 rfl rfl ?_
      exact ⟨A1, c1, rfl, ol.cast rfl (by rw [← overTo_all xs ys (by omega), hl2]), Ll⟩

theorem within_T (i lo hi : Int) (h : (lo ≤ i ∧ i ≤ hi)) (w : World) : Calls Try.prog 144 #[.int .i64 i, .int .i64 lo, .int .i64 hi] w fun e w' => e = .returned (.bool true) ∧ Le w w' := by
  refine enter Try.func144 rfl rfl ?_
  have L0 := Le.refl w
  refine WC.seq ?_
  refine WC.region ?_
  refine W.any (.assign rfl) rfl rfl rfl ?_
  refine W.nil ?_
  refine E.thenN ?_
  refine WC.seq ?_
  refine WC.region ?_
  refine W.any (.move rfl) rfl rfl rfl ?_
  refine W.any (.move rfl) rfl rfl rfl ?_
  refine W.any (.dec (.leq rfl rfl) (decide_eq_true (by omega))) rfl rfl rfl ?_
  refine W.any (.move rfl) rfl rfl rfl ?_
  refine W.rdg (Any.rd (.move rfl) _) rfl rfl rfl (rfl) rfl rfl ?_
  refine W.rdg (Any.rd (.move rfl) _) rfl rfl rfl (rfl) rfl rfl ?_
  refine W.rdg (Any.rd (.dec (.leq rfl rfl) (decide_eq_true (by omega))) _) rfl rfl rfl (rfl) rfl rfl ?_
  refine W.any (.pickT rfl rfl rfl) rfl rfl rfl ?_
  refine W.any (.assign rfl) rfl rfl rfl ?_
  refine W.nil ?_
  refine E.thenN ?_
  refine WC.ret ?_
  refine E.ret1 rfl rfl ?_
  exact ⟨rfl, L0⟩

theorem within_F (i lo hi : Int) (h : ¬ (lo ≤ i ∧ i ≤ hi)) (w : World) : Calls Try.prog 144 #[.int .i64 i, .int .i64 lo, .int .i64 hi] w fun e w' => e = .returned (.bool false) ∧ Le w w' := by
  refine enter Try.func144 rfl rfl ?_
  have L0 := Le.refl w
  refine WC.seq ?_
  refine WC.region ?_
  refine W.any (.assign rfl) rfl rfl rfl ?_
  refine W.nil ?_
  refine E.thenN ?_
  refine WC.seq ?_
  refine WC.region ?_
  refine W.any (.move rfl) rfl rfl rfl ?_
  refine W.any (.move rfl) rfl rfl rfl ?_
  by_cases h1 : lo ≤ i
  · refine W.any (.dec (.leq rfl rfl) (decide_eq_true (by omega))) rfl rfl rfl ?_
    refine W.any (.move rfl) rfl rfl rfl ?_
    refine W.rdg (Any.rd (.move rfl) _) rfl rfl rfl (rfl) rfl rfl ?_
    refine W.rdg (Any.rd (.move rfl) _) rfl rfl rfl (rfl) rfl rfl ?_
    refine W.rdg (Any.rd (.dec (.leq rfl rfl) (decide_eq_false (by omega))) _) rfl rfl rfl (rfl) rfl rfl ?_
    refine W.any (.pickT rfl rfl rfl) rfl rfl rfl ?_
    refine W.any (.assign rfl) rfl rfl rfl ?_
    refine W.nil ?_
    refine E.thenN ?_
    refine WC.ret ?_
    refine E.ret1 rfl rfl ?_
    exact ⟨rfl, L0⟩
  · refine W.any (.dec (.leq rfl rfl) (decide_eq_false (by omega))) rfl rfl rfl ?_
    refine W.any (.move rfl) rfl rfl rfl ?_
    refine W.skip rfl rfl rfl (rfl) rfl rfl ?_
    refine W.skip rfl rfl rfl (rfl) rfl rfl ?_
    refine W.skip rfl rfl rfl (rfl) rfl rfl ?_
    refine W.any (.pickF rfl rfl rfl) rfl rfl rfl ?_
    refine W.any (.assign rfl) rfl rfl rfl ?_
    refine W.nil ?_
    refine E.thenN ?_
    refine WC.ret ?_
    refine E.ret1 rfl rfl ?_
    exact ⟨rfl, L0⟩

theorem fright_T (a : Nat) (h : a < q) (w : World) : Calls Try.prog 60 #[.int .u64 ((a : Nat) : Int)] w fun e w' => e = .returned (.bool true) ∧ Le w w' := by
  have := fright_ok a w
  rwa [decide_eq_true h] at this

theorem fright_F (a : Nat) (h : ¬ a < q) (w : World) : Calls Try.prog 60 #[.int .u64 ((a : Nat) : Int)] w fun e w' => e = .returned (.bool false) ∧ Le w w' := by
  have := fright_ok a w
  rwa [decide_eq_false h] at this

theorem may_ok (h : Hop) (ho : HopOk h) (w : World) : Calls Try.prog 105 #[.agg (hopV h).toArray] w fun e w' => e = .returned (.bool (mayB h)) ∧ Le w w' := by
  refine enter Try.func105 rfl rfl ?_
  have L0 := Le.refl w
  refine WC.seq ?_
  refine WC.region ?_
  refine W.ef rfl rfl rfl ?_
  refine Ef.boxA rfl ?_
  intro g0_0 w0_0 hg0_0 b0_0 h0_0
  have L0_0 := L0.trans h0_0
  have LL := Le.refl w0_0
  refine W.any (.assign rfl) rfl rfl rfl ?_
  refine W.nil ?_
  refine E.thenN ?_
  refine WC.seq ?_
  refine WC.region ?_
  refine W.any (.assign rfl) rfl rfl rfl ?_
  refine W.nil ?_
  refine E.thenN ?_
  refine WC.seq ?_
  refine WC.region ?_
  refine W.any (.move rfl) rfl rfl rfl ?_
  refine W.any (.field0 fa95_0 rfl) rfl rfl rfl ?_
  refine W.rd (.loadB na3 rfl (b0_0.le LL) (rfl)) rfl rfl rfl ?_
  by_cases q1 : -1 ≤ h.1 ∧ h.1 ≤ 11
  · refine W.ef rfl rfl rfl ?_
    refine Ef.call go144 rfl rfl (within_T _ _ _ q1 w0_0) ?_
    rintro _ w2_3 ⟨rfl, h2_3⟩
    refine ⟨_, rfl, ?_⟩
    have L2_3 := LL.trans h2_3
    refine W.any (.move rfl) rfl rfl rfl ?_
    refine W.rdg (Any.rd (.move rfl) _) rfl rfl rfl (rfl) rfl rfl ?_
    refine W.rdg (Any.rd (.field0 fa95_1 rfl) _) rfl rfl rfl (rfl) rfl rfl ?_
    refine W.rdg (.loadB na3 rfl (b0_0.le L2_3) (rfl)) rfl rfl rfl (rfl) rfl rfl ?_
    by_cases q2 : 0 ≤ h.2.1 ∧ h.2.1 ≤ 1048575
    · refine W.efg rfl rfl rfl (rfl) rfl rfl ?_
      refine Ef.call go144 rfl rfl (within_T _ _ _ q2 w2_3) ?_
      rintro _ w2_8 ⟨rfl, h2_8⟩
      refine ⟨_, rfl, ?_⟩
      have L2_8 := L2_3.trans h2_8
      refine W.any (.pickT rfl rfl rfl) rfl rfl rfl ?_
      refine W.any (.move rfl) rfl rfl rfl ?_
      refine W.rdg (Any.rd (.move rfl) _) rfl rfl rfl (rfl) rfl rfl ?_
      refine W.rdg (Any.rd (.field0 fa95_2 rfl) _) rfl rfl rfl (rfl) rfl rfl ?_
      refine W.rdg (.loadB na3 rfl (b0_0.le L2_8) (rfl)) rfl rfl rfl (rfl) rfl rfl ?_
      by_cases q3 : 0 ≤ h.2.2.1 ∧ h.2.2.1 ≤ 1125899906842624
      · refine W.efg rfl rfl rfl (rfl) rfl rfl ?_
        refine Ef.call go144 rfl rfl (within_T _ _ _ q3 w2_8) ?_
        rintro _ w2_14 ⟨rfl, h2_14⟩
        refine ⟨_, rfl, ?_⟩
        have L2_14 := L2_8.trans h2_14
        refine W.any (.pickT rfl rfl rfl) rfl rfl rfl ?_
        refine W.any (.move rfl) rfl rfl rfl ?_
        refine W.rdg (Any.rd (.move rfl) _) rfl rfl rfl (rfl) rfl rfl ?_
        refine W.rdg (Any.rd (.field0 fa95_3 rfl) _) rfl rfl rfl (rfl) rfl rfl ?_
        refine W.rdg (.loadB na3 rfl (b0_0.le L2_14) (rfl)) rfl rfl rfl (rfl) rfl rfl ?_
        by_cases q4 : 0 ≤ h.2.2.2.1 ∧ h.2.2.2.1 ≤ 1048576
        · refine W.efg rfl rfl rfl (rfl) rfl rfl ?_
          refine Ef.call go144 rfl rfl (within_T _ _ _ q4 w2_14) ?_
          rintro _ w2_20 ⟨rfl, h2_20⟩
          refine ⟨_, rfl, ?_⟩
          have L2_20 := L2_14.trans h2_20
          refine W.any (.pickT rfl rfl rfl) rfl rfl rfl ?_
          refine W.any (.assign rfl) rfl rfl rfl ?_
          refine W.nil ?_
          refine E.thenN ?_
          refine WC.seq ?_
          refine WC.region ?_
          refine W.any (.move rfl) rfl rfl rfl ?_
          refine W.any (.move rfl) rfl rfl rfl ?_
          refine W.rdg (Any.rd (.field0 fa95_5 rfl) _) rfl rfl rfl (rfl) rfl rfl ?_
          refine W.rdg (.loadB na30 rfl (b0_0.le L2_20) (rfl)) rfl rfl rfl (rfl) rfl rfl ?_
          by_cases q5 : h.2.2.2.2.2 < q
          · refine W.efg rfl rfl rfl (rfl) rfl rfl ?_
            refine Ef.call go60 rfl rfl (fright_T _ q5 w2_20) ?_
            rintro _ w3_4 ⟨rfl, h3_4⟩
            refine ⟨_, rfl, ?_⟩
            have L3_4 := L2_20.trans h3_4
            refine W.any (.pickT rfl rfl rfl) rfl rfl rfl ?_
            refine W.any (.move rfl) rfl rfl rfl ?_
            refine W.rdg (Any.rd (.field0 fa95_4 rfl) _) rfl rfl rfl (rfl) rfl rfl ?_
            refine W.rdg (.loadB na31 rfl (b0_0.le L3_4) (rfl)) rfl rfl rfl (rfl) rfl rfl ?_
            by_cases q6 : h.2.2.2.2.1 = 0
            · refine W.rdg (Any.rd (.dec (.eql rfl rfl) (decide_eq_true (by omega))) _) rfl rfl rfl (rfl) rfl rfl ?_
              refine W.rdg (Any.rd (.move rfl) _) rfl rfl rfl (rfl) rfl rfl ?_
              refine W.skip rfl rfl rfl (rfl) rfl rfl ?_
              refine W.skip rfl rfl rfl (rfl) rfl rfl ?_
              refine W.skip rfl rfl rfl (rfl) rfl rfl ?_
              refine W.rdg (Any.rd (.pickT rfl rfl rfl) _) rfl rfl rfl (rfl) rfl rfl ?_
              refine W.any (.pickT rfl rfl rfl) rfl rfl rfl ?_
              refine W.any (.assign rfl) rfl rfl rfl ?_
              refine W.nil ?_
              refine E.thenN ?_
              refine WC.ret ?_
              refine E.ret1 rfl rfl ?_
              exact ⟨by rw [mayB, decide_eq_true q1, decide_eq_true q2, decide_eq_true q3, decide_eq_true q4, decide_eq_true q5, decide_eq_true q6]; rfl, h0_0.trans L3_4⟩
            · refine W.rdg (Any.rd (.dec (.eql rfl rfl) (decide_eq_false (by omega))) _) rfl rfl rfl (rfl) rfl rfl ?_
              refine W.rdg (Any.rd (.move rfl) _) rfl rfl rfl (rfl) rfl rfl ?_
              refine W.rdg (Any.rd (.field0 fa95_4 rfl) _) rfl rfl rfl (rfl) rfl rfl ?_
              refine W.rdg (.loadB na31 rfl (b0_0.le L3_4) (rfl)) rfl rfl rfl (rfl) rfl rfl ?_
              refine W.efg rfl rfl rfl (rfl) rfl rfl ?_
              refine Ef.call go90 rfl rfl (pright_ok _ ho.2.2.2.2.1 w3_4) ?_
              rintro _ w3_13 ⟨rfl, h3_13⟩
              refine ⟨_, rfl, ?_⟩
              have L3_13 := L3_4.trans h3_13
              refine W.rdg (Any.rd (.pickF rfl rfl rfl) _) rfl rfl rfl (rfl) rfl rfl ?_
              refine W.any (.pickT rfl rfl rfl) rfl rfl rfl ?_
              refine W.any (.assign rfl) rfl rfl rfl ?_
              refine W.nil ?_
              refine E.thenN ?_
              refine WC.ret ?_
              refine E.ret1 rfl rfl ?_
              exact ⟨by rw [mayB, decide_eq_true q1, decide_eq_true q2, decide_eq_true q3, decide_eq_true q4, decide_eq_true q5, decide_eq_false q6]; rfl, h0_0.trans L3_13⟩
          · refine W.efg rfl rfl rfl (rfl) rfl rfl ?_
            refine Ef.call go60 rfl rfl (fright_F _ q5 w2_20) ?_
            rintro _ w3_4 ⟨rfl, h3_4⟩
            refine ⟨_, rfl, ?_⟩
            have L3_4 := L2_20.trans h3_4
            refine W.any (.pickT rfl rfl rfl) rfl rfl rfl ?_
            refine W.any (.move rfl) rfl rfl rfl ?_
            refine W.skip rfl rfl rfl (rfl) rfl rfl ?_
            refine W.skip rfl rfl rfl (rfl) rfl rfl ?_
            refine W.skip rfl rfl rfl (rfl) rfl rfl ?_
            refine W.skip rfl rfl rfl (rfl) rfl rfl ?_
            refine W.skipu rfl rfl rfl rfl rfl ?_
            refine W.skipu rfl rfl rfl rfl rfl ?_
            refine W.skipu rfl rfl rfl rfl rfl ?_
            refine W.skip rfl rfl rfl (rfl) rfl rfl ?_
            refine W.any (.pickF rfl rfl rfl) rfl rfl rfl ?_
            refine W.any (.assign rfl) rfl rfl rfl ?_
            refine W.nil ?_
            refine E.thenN ?_
            refine WC.ret ?_
            refine E.ret1 rfl rfl ?_
            exact ⟨by rw [mayB, decide_eq_true q1, decide_eq_true q2, decide_eq_true q3, decide_eq_true q4, decide_eq_false q5]; rfl, h0_0.trans L3_4⟩
        · refine W.efg rfl rfl rfl (rfl) rfl rfl ?_
          refine Ef.call go144 rfl rfl (within_F _ _ _ q4 w2_14) ?_
          rintro _ w2_20 ⟨rfl, h2_20⟩
          refine ⟨_, rfl, ?_⟩
          have L2_20 := L2_14.trans h2_20
          refine W.any (.pickT rfl rfl rfl) rfl rfl rfl ?_
          refine W.any (.assign rfl) rfl rfl rfl ?_
          refine W.nil ?_
          refine E.thenN ?_
          refine WC.seq ?_
          refine WC.region ?_
          refine W.any (.move rfl) rfl rfl rfl ?_
          refine W.any (.move rfl) rfl rfl rfl ?_
          refine W.skip rfl rfl rfl (rfl) rfl rfl ?_
          refine W.skip rfl rfl rfl (rfl) rfl rfl ?_
          refine W.skip rfl rfl rfl (rfl) rfl rfl ?_
          refine W.any (.pickF rfl rfl rfl) rfl rfl rfl ?_
          refine W.any (.move rfl) rfl rfl rfl ?_
          refine W.skip rfl rfl rfl (rfl) rfl rfl ?_
          refine W.skip rfl rfl rfl (rfl) rfl rfl ?_
          refine W.skip rfl rfl rfl (rfl) rfl rfl ?_
          refine W.skip rfl rfl rfl (rfl) rfl rfl ?_
          refine W.skipu rfl rfl rfl rfl rfl ?_
          refine W.skipu rfl rfl rfl rfl rfl ?_
          refine W.skipu rfl rfl rfl rfl rfl ?_
          refine W.skip rfl rfl rfl (rfl) rfl rfl ?_
          refine W.any (.pickF rfl rfl rfl) rfl rfl rfl ?_
          refine W.any (.assign rfl) rfl rfl rfl ?_
          refine W.nil ?_
          refine E.thenN ?_
          refine WC.ret ?_
          refine E.ret1 rfl rfl ?_
          exact ⟨by rw [mayB, decide_eq_false q4, Bool.and_false, Bool.false_and], h0_0.trans L2_20⟩
      · refine W.efg rfl rfl rfl (rfl) rfl rfl ?_
        refine Ef.call go144 rfl rfl (within_F _ _ _ q3 w2_8) ?_
        rintro _ w2_14 ⟨rfl, h2_14⟩
        refine ⟨_, rfl, ?_⟩
        have L2_14 := L2_8.trans h2_14
        refine W.any (.pickT rfl rfl rfl) rfl rfl rfl ?_
        refine W.any (.move rfl) rfl rfl rfl ?_
        refine W.skip rfl rfl rfl (rfl) rfl rfl ?_
        refine W.skip rfl rfl rfl (rfl) rfl rfl ?_
        refine W.skip rfl rfl rfl (rfl) rfl rfl ?_
        refine W.skip rfl rfl rfl (rfl) rfl rfl ?_
        refine W.any (.pickF rfl rfl rfl) rfl rfl rfl ?_
        refine W.any (.assign rfl) rfl rfl rfl ?_
        refine W.nil ?_
        refine E.thenN ?_
        refine WC.seq ?_
        refine WC.region ?_
        refine W.any (.move rfl) rfl rfl rfl ?_
        refine W.any (.move rfl) rfl rfl rfl ?_
        refine W.skip rfl rfl rfl (rfl) rfl rfl ?_
        refine W.skip rfl rfl rfl (rfl) rfl rfl ?_
        refine W.skip rfl rfl rfl (rfl) rfl rfl ?_
        refine W.any (.pickF rfl rfl rfl) rfl rfl rfl ?_
        refine W.any (.move rfl) rfl rfl rfl ?_
        refine W.skip rfl rfl rfl (rfl) rfl rfl ?_
        refine W.skip rfl rfl rfl (rfl) rfl rfl ?_
        refine W.skip rfl rfl rfl (rfl) rfl rfl ?_
        refine W.skip rfl rfl rfl (rfl) rfl rfl ?_
        refine W.skipu rfl rfl rfl rfl rfl ?_
        refine W.skipu rfl rfl rfl rfl rfl ?_
        refine W.skipu rfl rfl rfl rfl rfl ?_
        refine W.skip rfl rfl rfl (rfl) rfl rfl ?_
        refine W.any (.pickF rfl rfl rfl) rfl rfl rfl ?_
        refine W.any (.assign rfl) rfl rfl rfl ?_
        refine W.nil ?_
        refine E.thenN ?_
        refine WC.ret ?_
        refine E.ret1 rfl rfl ?_
        exact ⟨by rw [mayB, decide_eq_false q3, Bool.and_false, Bool.false_and, Bool.false_and], h0_0.trans L2_14⟩
    · refine W.efg rfl rfl rfl (rfl) rfl rfl ?_
      refine Ef.call go144 rfl rfl (within_F _ _ _ q2 w2_3) ?_
      rintro _ w2_8 ⟨rfl, h2_8⟩
      refine ⟨_, rfl, ?_⟩
      have L2_8 := L2_3.trans h2_8
      refine W.any (.pickT rfl rfl rfl) rfl rfl rfl ?_
      refine W.any (.move rfl) rfl rfl rfl ?_
      refine W.skip rfl rfl rfl (rfl) rfl rfl ?_
      refine W.skip rfl rfl rfl (rfl) rfl rfl ?_
      refine W.skip rfl rfl rfl (rfl) rfl rfl ?_
      refine W.skip rfl rfl rfl (rfl) rfl rfl ?_
      refine W.any (.pickF rfl rfl rfl) rfl rfl rfl ?_
      refine W.any (.move rfl) rfl rfl rfl ?_
      refine W.skip rfl rfl rfl (rfl) rfl rfl ?_
      refine W.skip rfl rfl rfl (rfl) rfl rfl ?_
      refine W.skip rfl rfl rfl (rfl) rfl rfl ?_
      refine W.skip rfl rfl rfl (rfl) rfl rfl ?_
      refine W.any (.pickF rfl rfl rfl) rfl rfl rfl ?_
      refine W.any (.assign rfl) rfl rfl rfl ?_
      refine W.nil ?_
      refine E.thenN ?_
      refine WC.seq ?_
      refine WC.region ?_
      refine W.any (.move rfl) rfl rfl rfl ?_
      refine W.any (.move rfl) rfl rfl rfl ?_
      refine W.skip rfl rfl rfl (rfl) rfl rfl ?_
      refine W.skip rfl rfl rfl (rfl) rfl rfl ?_
      refine W.skip rfl rfl rfl (rfl) rfl rfl ?_
      refine W.any (.pickF rfl rfl rfl) rfl rfl rfl ?_
      refine W.any (.move rfl) rfl rfl rfl ?_
      refine W.skip rfl rfl rfl (rfl) rfl rfl ?_
      refine W.skip rfl rfl rfl (rfl) rfl rfl ?_
      refine W.skip rfl rfl rfl (rfl) rfl rfl ?_
      refine W.skip rfl rfl rfl (rfl) rfl rfl ?_
      refine W.skipu rfl rfl rfl rfl rfl ?_
      refine W.skipu rfl rfl rfl rfl rfl ?_
      refine W.skipu rfl rfl rfl rfl rfl ?_
      refine W.skip rfl rfl rfl (rfl) rfl rfl ?_
      refine W.any (.pickF rfl rfl rfl) rfl rfl rfl ?_
      refine W.any (.assign rfl) rfl rfl rfl ?_
      refine W.nil ?_
      refine E.thenN ?_
      refine WC.ret ?_
      refine E.ret1 rfl rfl ?_
      exact ⟨by rw [mayB, decide_eq_false q2, Bool.and_false, Bool.false_and, Bool.false_and, Bool.false_and], h0_0.trans L2_8⟩
  · refine W.ef rfl rfl rfl ?_
    refine Ef.call go144 rfl rfl (within_F _ _ _ q1 w0_0) ?_
    rintro _ w2_3 ⟨rfl, h2_3⟩
    refine ⟨_, rfl, ?_⟩
    have L2_3 := LL.trans h2_3
    refine W.any (.move rfl) rfl rfl rfl ?_
    refine W.skip rfl rfl rfl (rfl) rfl rfl ?_
    refine W.skip rfl rfl rfl (rfl) rfl rfl ?_
    refine W.skip rfl rfl rfl (rfl) rfl rfl ?_
    refine W.skip rfl rfl rfl (rfl) rfl rfl ?_
    refine W.any (.pickF rfl rfl rfl) rfl rfl rfl ?_
    refine W.any (.move rfl) rfl rfl rfl ?_
    refine W.skip rfl rfl rfl (rfl) rfl rfl ?_
    refine W.skip rfl rfl rfl (rfl) rfl rfl ?_
    refine W.skip rfl rfl rfl (rfl) rfl rfl ?_
    refine W.skip rfl rfl rfl (rfl) rfl rfl ?_
    refine W.any (.pickF rfl rfl rfl) rfl rfl rfl ?_
    refine W.any (.move rfl) rfl rfl rfl ?_
    refine W.skip rfl rfl rfl (rfl) rfl rfl ?_
    refine W.skip rfl rfl rfl (rfl) rfl rfl ?_
    refine W.skip rfl rfl rfl (rfl) rfl rfl ?_
    refine W.skip rfl rfl rfl (rfl) rfl rfl ?_
    refine W.any (.pickF rfl rfl rfl) rfl rfl rfl ?_
    refine W.any (.assign rfl) rfl rfl rfl ?_
    refine W.nil ?_
    refine E.thenN ?_
    refine WC.seq ?_
    refine WC.region ?_
    refine W.any (.move rfl) rfl rfl rfl ?_
    refine W.any (.move rfl) rfl rfl rfl ?_
    refine W.skip rfl rfl rfl (rfl) rfl rfl ?_
    refine W.skip rfl rfl rfl (rfl) rfl rfl ?_
    refine W.skip rfl rfl rfl (rfl) rfl rfl ?_
    refine W.any (.pickF rfl rfl rfl) rfl rfl rfl ?_
    refine W.any (.move rfl) rfl rfl rfl ?_
    refine W.skip rfl rfl rfl (rfl) rfl rfl ?_
    refine W.skip rfl rfl rfl (rfl) rfl rfl ?_
    refine W.skip rfl rfl rfl (rfl) rfl rfl ?_
    refine W.skip rfl rfl rfl (rfl) rfl rfl ?_
    refine W.skipu rfl rfl rfl rfl rfl ?_
    refine W.skipu rfl rfl rfl rfl rfl ?_
    refine W.skipu rfl rfl rfl rfl rfl ?_
    refine W.skip rfl rfl rfl (rfl) rfl rfl ?_
    refine W.any (.pickF rfl rfl rfl) rfl rfl rfl ?_
    refine W.any (.assign rfl) rfl rfl rfl ?_
    refine W.nil ?_
    refine E.thenN ?_
    refine WC.ret ?_
    refine E.ret1 rfl rfl ?_
    exact ⟨by rw [mayB, decide_eq_false q1, Bool.false_and, Bool.false_and, Bool.false_and, Bool.false_and], h0_0.trans L2_3⟩

theorem grow_ok (m : Nat) (h0 : 0 < m) (hm : m ≤ 1000000) (w : World) : Calls Try.prog 147 #[.slice none 0 0, .int .i64 (m : Int)] w fun e w' => ∃ A c, e = .returned (.slice A 0 c) ∧ Own w' w.heap.size 5 1 A 0 c [] ∧ Le w w' := by
  refine enter Try.func147 rfl rfl ?_
  have L0 := Le.refl w
  refine WC.seq ?_
  refine WC.region ?_
  refine W.any (.assign rfl) rfl rfl rfl ?_
  refine W.nil ?_
  refine E.thenN ?_
  refine WC.seq ?_
  refine WC.seq ?_
  refine WC.region ?_
  refine W.any (.move rfl) rfl rfl rfl ?_
  refine W.any (.lss rfl rfl) rfl rfl rfl ?_
  refine W.nil ?_
  refine E.thenN ?_
  refine WC.condB rfl (fun h => absurd h (by simp)) (fun _ => ?_)
  refine WC.skip ?_
  refine E.thenN ?_
  refine WC.seq ?_
  refine WC.seq ?_
  refine WC.region ?_
  refine W.any (.move rfl) rfl rfl rfl ?_
  refine W.any (.move rfl) rfl rfl rfl ?_
  refine W.rd (.cap Try.underlying107 rfl rfl) rfl rfl rfl ?_
  refine W.any (.move rfl) rfl rfl rfl ?_
  refine W.rd (.len Try.underlying107 rfl) rfl rfl rfl ?_
  refine W.any (.sub rfl rfl (by omega)) rfl rfl rfl ?_
  refine W.any (.sub rfl rfl (by omega)) rfl rfl rfl ?_
  refine W.any (.assign rfl) rfl rfl rfl ?_
  refine W.nil ?_
  refine E.thenN ?_
  refine WC.seq ?_
  refine WC.region ?_
  refine W.any (.move rfl) rfl rfl rfl ?_
  refine W.any (.gtr rfl rfl) rfl rfl rfl ?_
  refine W.nil ?_
  refine E.thenN ?_
  refine WC.condB rfl (fun _ => ?_) (fun h => absurd h (by simp; omega))
  refine WC.region ?_
  refine W.any (.move rfl) rfl rfl rfl ?_
  refine W.any (.move rfl) rfl rfl rfl ?_
  refine W.rd (.cap Try.underlying107 rfl rfl) rfl rfl rfl ?_
  refine W.any (.cutH (0) Try.underlying107 sz5 rfl rfl (rfl) (by decide)) rfl rfl rfl ?_
  refine W.any (.move rfl) rfl rfl rfl ?_
  refine W.ef rfl rfl rfl ?_
  refine Ef.appendZ m Try.underlying107 Try.underlying3 el5 rfl rfl (Own.nil _ _ _ _ _) rfl (by omega) h0 (by omega) (by unfold maxLen; omega) (Nat.le_refl _) ?_
  intro A5 c5 w5_5 o5 h5_5 at5
  have L5_5 : Le w w5_5 := L0.then_ h5_5 (fun q hq => by simp [rowOf_zero] at hq)
  refine W.any (.move rfl) rfl rfl rfl ?_
  refine W.rd (.len Try.underlying107 rfl) rfl rfl rfl ?_
  refine W.any (.cutH (0) Try.underlying107 sz5 rfl rfl (rfl) (Nat.zero_le _)) rfl rfl rfl ?_
  refine W.any (.assign rfl) rfl rfl rfl ?_
  refine W.nil ?_
  refine E.thenN ?_
  refine WC.seq ?_
  refine WC.region ?_
  refine W.any (.move rfl) rfl rfl rfl ?_
  refine W.any (.assign rfl) rfl rfl rfl ?_
  refine W.nil ?_
  refine E.thenN ?_
  refine WC.ret ?_
  refine E.ret1 rfl rfl ?_
  exact ⟨A5, c5, rfl, (o5.front 0 (Nat.zero_le _)).cast rfl (by simp), L5_5⟩

theorem concat_ok {A : Option Addr} {n c : Nat} {vs : List Value} {ps : List (List Byte)} (w : World) (hV : Sl w 1 A n vs) (hP : Parts w vs ps) (h0 : 0 < ps.flatten.length) (hT : ps.flatten.length ≤ 1000000) (hn : n ≤ 1000) : Calls Try.prog 110 #[.slice A n c] w fun e w' => ∃ A' c', e = .returned (.slice A' ps.flatten.length c') ∧ Own w' w.heap.size 5 1 A' ps.flatten.length c' (ps.flatten.map u8v) ∧ Le w w' := by
  have hvl := hV.1
  rw [Nat.mul_one] at hvl
  have hpl := hP.1
  have hgr : ∀ w, Calls Try.prog 147 #[.slice none 0 0, .int .i64 (((ps.take n).flatten.length : Nat) : Int)] w fun e w' => ∃ A c, e = .returned (.slice A 0 c) ∧ Own w' w.heap.size 5 1 A 0 c [] ∧ Le w w' := fun w => by
    rw [List.take_of_length_le (by omega)]
    exact grow_ok _ h0 hT w
  refine enter Try.func110 rfl rfl ?_
  have L0 := Le.refl w
  refine WC.seq ?_
  refine WC.region ?_
  refine W.any (.assign rfl) rfl rfl rfl ?_
  refine W.nil ?_
  refine E.thenN ?_
  refine WC.seq ?_
  refine WC.region ?_
  refine W.any (.assign rfl) rfl rfl rfl ?_
  refine W.nil ?_
  refine E.thenN ?_
  refine WC.seq ?_
  refine WC.seq ?_
  refine WC.region ?_
  refine W.any (.move rfl) rfl rfl rfl ?_
  refine W.rd (.len Try.underlying211 rfl) rfl rfl rfl ?_
  refine W.any (.move rfl) rfl rfl rfl ?_
  refine W.nil ?_
  refine E.thenN ?_
  refine WC.block ?_
  refine WC.loop (ι := Nat) (fun k => [(0, .slice A n c), (3, .int .i64 (((ps.take k).flatten.length : Nat) : Int)), (9, .slice A n c), (10, .int .i64 (n : Int)), (11, .int .i64 (k : Int))]) (fun k wl => k ≤ n ∧ Le w wl) (fun k => n - k) 0 ?_ ?_ ?_
  · exact .cons rfl (.cons rfl (.cons rfl (.cons rfl (.cons rfl (.nil _)))))
  · exact ⟨Nat.zero_le _, L0⟩
  · rintro k wl ⟨hk, Ll⟩
    have hle := flatten_take_le ps k
    refine WC.seq ?_
    refine WC.region ?_
    refine W.any (.lss rfl rfl) rfl rfl rfl ?_
    refine W.nil ?_
    refine E.thenN ?_
    refine WC.seq ?_
    refine WC.cond rfl (fun c0 => ?_) (fun c0 => ?_)
    · obtain ⟨q, hq⟩ : ∃ q, ps[k]? = some q := ⟨_, List.getElem?_eq_getElem (by omega)⟩
      obtain ⟨v, hv⟩ : ∃ v, vs[k]? = some v := ⟨_, List.getElem?_eq_getElem (by omega)⟩
      obtain ⟨Aq, cq, rfl, hq2⟩ := hP.2 k v q hv hq
      have hle2 := flatten_take_le ps (k + 1)
      rw [flatten_snoc ps k q hq, List.length_append] at hle2
      refine WC.skip ?_
      refine E.thenN ?_
      refine WC.seq ?_
      refine WC.block ?_
      refine WC.seq ?_
      refine WC.region ?_
      refine W.any (.idxS1 (k) Try.underlying211 sz107 rfl rfl (hV.isSome (j := k) (by omega) (by decide)) (rfl) (by omega)) rfl rfl rfl ?_
      refine W.rd (.loadS na107 rfl (hV.le Ll) (hv)) rfl rfl rfl ?_
      refine W.any (.assign rfl) rfl rfl rfl ?_
      refine W.nil ?_
      refine E.thenN ?_
      refine WC.seq ?_
      refine WC.region ?_
      refine W.any (.move rfl) rfl rfl rfl ?_
      refine W.any (.move rfl) rfl rfl rfl ?_
      refine W.rd (.len Try.underlying107 rfl) rfl rfl rfl ?_
      refine W.any (.add rfl rfl (by omega)) rfl rfl rfl ?_
      refine W.any (.assign rfl) rfl rfl rfl ?_
      refine W.nil ?_
      refine E.thenN ?_
      refine WC.seq ?_
      refine WC.region ?_
      refine W.any (.move rfl) rfl rfl rfl ?_
      refine W.any (.lss rfl rfl) rfl rfl rfl ?_
      refine W.nil ?_
      refine E.thenN ?_
      refine WC.condB rfl (fun h => absurd h (by simp; omega)) (fun _ => ?_)
      refine WC.skip ?_
      refine E.blkN ?_
      refine E.thenN ?_
      refine WC.region ?_
      refine W.any (.add rfl rfl (by omega)) rfl rfl rfl ?_
      refine W.any (.move rfl) rfl rfl rfl ?_
      refine W.nil ?_
      refine E.again (k + 1) (.cons rfl (.cons' rfl (int_eq (by rw [flatten_snoc ps k q hq, List.length_append, Int.natCast_add])) (.cons rfl (.cons rfl (.cons rfl (.nil _)))))) ?_ ?_
      · exact ⟨by omega, Ll⟩
      · first | omega | (simp only []; omega)
    · have hkn : n = k := by omega
      subst hkn
      rw [List.take_of_length_le (by omega)] at hle
      refine WC.exit ?_
      refine E.thenX ?_
      refine E.thenX ?_
      refine E.blkH ?_
      refine E.thenN ?_
      refine WC.seq ?_
      refine WC.region ?_
      refine W.any (.move rfl) rfl rfl rfl ?_
      refine W.ef rfl rfl rfl ?_
      refine Ef.call go147 rfl rfl (hgr wl) ?_
      rintro _ w9_1 ⟨A9, c9, rfl, o9, h9_1⟩
      refine ⟨_, rfl, ?_⟩
      have L9_1 := Ll.trans h9_1
      have o9 := o9.mono Ll.size
      refine W.any (.assign rfl) rfl rfl rfl ?_
      refine W.nil ?_
      refine E.thenN ?_
      refine WC.seq ?_
      refine WC.seq ?_
      refine WC.region ?_
      refine W.any (.move rfl) rfl rfl rfl ?_
      refine W.rd (.len Try.underlying211 rfl) rfl rfl rfl ?_
      refine W.any (.move rfl) rfl rfl rfl ?_
      refine W.nil ?_
      refine E.thenN ?_
      refine WC.block ?_
      refine WC.loop (ι := Nat × Option Addr × Nat) (fun ⟨k, A1, c1⟩ => [(6, .slice A1 ((ps.take k).flatten.length) c1), (25, .slice A n c), (26, .int .i64 (n : Int)), (27, .int .i64 (k : Int))]) (fun ⟨k, A1, c1⟩ wm => k ≤ n ∧ Le w wm ∧ Own wm w.heap.size 5 1 A1 ((ps.take k).flatten.length) c1 ((ps.take k).flatten.map u8v)) (fun ⟨k, A1, c1⟩ => n - k) (0, A9, c9) ?_ ?_ ?_
      · exact .cons rfl (.cons rfl (.cons rfl (.cons rfl (.nil _))))
      · exact ⟨Nat.zero_le _, L9_1, o9⟩
      · rintro ⟨k, A1, c1⟩ wm ⟨hk, Lm, om⟩
        refine WC.seq ?_
        refine WC.region ?_
        refine W.any (.lss rfl rfl) rfl rfl rfl ?_
        refine W.nil ?_
        refine E.thenN ?_
        refine WC.seq ?_
        refine WC.cond rfl (fun c2 => ?_) (fun c2 => ?_)
        · obtain ⟨q, hq⟩ : ∃ q, ps[k]? = some q := ⟨_, List.getElem?_eq_getElem (by omega)⟩
          obtain ⟨v, hv⟩ : ∃ v, vs[k]? = some v := ⟨_, List.getElem?_eq_getElem (by omega)⟩
          obtain ⟨Aq, cq, rfl, hq2⟩ := hP.2 k v q hv hq
          have hle2 := flatten_take_le ps (k + 1)
          rw [flatten_snoc ps k q hq, List.length_append] at hle2
          refine WC.skip ?_
          refine E.thenN ?_
          refine WC.seq ?_
          refine WC.block ?_
          refine WC.seq ?_
          refine WC.region ?_
          refine W.any (.idxS1 (k) Try.underlying211 sz107 rfl rfl (hV.isSome (j := k) (by omega) (by decide)) (rfl) (by omega)) rfl rfl rfl ?_
          refine W.rd (.loadS na107 rfl (hV.le Lm) (hv)) rfl rfl rfl ?_
          refine W.any (.assign rfl) rfl rfl rfl ?_
          refine W.nil ?_
          refine E.thenN ?_
          refine WC.region ?_
          refine W.any (.move rfl) rfl rfl rfl ?_
          refine W.any (.move rfl) rfl rfl rfl ?_
          refine W.ef rfl rfl rfl ?_
          refine Ef.append Try.underlying107 el5 rfl (om) rfl ((hq2.le Lm).src Try.underlying107 _) (by omega) (by unfold maxLen; omega) (Lm.size) ?_
          intro A13_2 c13_2 w13_2 o13_2 h13_2 at13_2
          have L13_2 : Le w w13_2 := Lm.then_ h13_2 (fun q hq => (om.row hq).1)
          refine W.any (.assign rfl) rfl rfl rfl ?_
          refine W.nil ?_
          refine E.blkN ?_
          refine E.thenN ?_
          refine WC.region ?_
          refine W.any (.add rfl rfl (by omega)) rfl rfl rfl ?_
          refine W.any (.move rfl) rfl rfl rfl ?_
          refine W.nil ?_
          refine E.again (k + 1, A13_2, c13_2) (.cons' rfl (slice_eq (by rw [flatten_snoc ps k q hq, List.length_append])) (.cons rfl (.cons rfl (.cons rfl (.nil _))))) ?_ ?_
          · exact ⟨by omega, L13_2, o13_2.cast (by rw [flatten_snoc ps k q hq, List.length_append]) (by rw [flatten_snoc ps k q hq, List.map_append])⟩
          · first | omega | (simp only []; omega)
        · have hkn : n = k := by omega
          subst hkn
          rw [List.take_of_length_le (by omega)] at om
          refine WC.exit ?_
          refine E.thenX ?_
          refine E.thenX ?_
          refine E.blkH ?_
          refine E.thenN ?_
          refine WC.seq ?_
          refine WC.region ?_
          refine W.any (.move rfl) rfl rfl rfl ?_
          refine W.any (.assign rfl) rfl rfl rfl ?_
          refine W.nil ?_
          refine E.thenN ?_
          refine WC.ret ?_
          refine E.ret1 rfl rfl ?_
          exact ⟨A1, c1, by rw [List.take_of_length_le (by omega)], om, Lm⟩
end Go.Proofs.Ytfgakofjkldcjaa

namespace Go.Proofs.Ytfgakofjkldcjaa
open Go Go.Sx Go.Hsp Go.Num Go.Osp
set_option maxRecDepth 20000
def pv (k : Nat) : Value := .int .u64 (k : Nat)
theorem getp (ks : List Nat) {k : Nat} (h : k < ks.length) : (ks.map pv)[k]? = some (pv (ks.getD k 0)) := by simp [h, List.getD]
theorem getn (ks : List Nat) {k : Nat} (h : k < ks.length) : ks[k]? = some (ks.getD k 0) := by simp [h, List.getD]
/-- The exponent behind keys. -/
def xAt : Nat → List Nat → Nat
  | x, [] => x
  | x, k :: ks => xAt (nextX x k) ks
theorem xAt_snoc (x : Nat) (ks : List Nat) (k : Nat) (key : Nat) (h : ks[k]? = some key) : xAt x (ks.take (k + 1)) = nextX (xAt x (ks.take k)) key := by
  have ap : ∀ (l m : List Nat) (x : Nat), xAt x (l ++ m) = xAt (xAt x l) m := by
    intro l
    induction l with
    | nil => intro m n; rfl
    | cons c l ih => intro m n; exact ih m _
  rw [List.take_add_one, h, ap]; rfl
theorem wayB_append : ∀ (l m : List Nat) (x : Nat), wayB x (l ++ m) = wayB x l ++ wayB (xAt x l) m
  | [], _, _ => rfl
  | k :: l, m, x => by rw [List.cons_append, wayB, wayB, wayB_append l m, List.cons_append]; rfl
theorem wayB_snoc (x : Nat) (ks : List Nat) (k : Nat) (key : Nat) (h : ks[k]? = some key) : wayB x (ks.take (k + 1)) = wayB x (ks.take k) ++ [stopB (xAt x (ks.take k)) key] := by
  rw [List.take_add_one, h, wayB_append]; rfl
theorem wayB_sum : ∀ (ks : List Nat) (x : Nat), ∀ s ∈ wayB x ks, s.2.length = 32
  | [], _, s, hs => by simp [wayB] at hs
  | k :: ks, x, s, hs => by
    simp only [wayB, List.mem_cons] at hs
    rcases hs with rfl | hs
    · exact sharedB_length _
    · exact wayB_sum ks _ s hs
theorem keyOk_yes {k : Nat} (h1 : ¬ k = 1) (h2 : right k = true) : keyOk k = true := by rw [keyOk, h2, decide_eq_true h1]; rfl
theorem keyOk_no {k : Nat} (h2 : right k = false) : keyOk k = false := by rw [keyOk, h2, Bool.and_false]
def stopRows (l : List Stop) : List (List Value) := l.map stopV
theorem stopRows_len (l : List Stop) (h : ∀ s ∈ l, s.2.length = 32) : ∀ r ∈ stopRows l, r.length = 33 := fun r hr => by
  obtain ⟨s, hs, rfl⟩ := List.mem_map.1 hr
  exact stopV_length s (h s hs)
theorem fillTo_snoc (l : List Stop) (k : Nat) (s : Stop) (h : l[k]? = some s) : fillTo [] (l.take (k + 1)) = fillS (fillTo [] (l.take k)) s := by
  rw [List.take_add_one, h, fillTo_append]; rfl
theorem keys_all (ks : List Nat) (k key : Nat) (h : ks[k]? = some key) (ha : (ks.take k).all keyOk = true) : (ks.take (k + 1)).all keyOk = keyOk key := by
  rw [List.take_add_one, h, List.all_append, ha]; simp
theorem key_bad (ks : List Nat) (k key : Nat) (h : ks[k]? = some key) (hb : keyOk key = false) : keysOk ks = false := by
  have : ks.all keyOk = false := by
    rw [← Bool.not_eq_true, List.all_eq_true]
    intro ha
    have := ha key (List.mem_of_getElem? h)
    rw [hb] at this; cases this
  rw [keysOk, this, Bool.and_false]
theorem concat_to {A : Option Addr} {n c : Nat} {vs : List Value} {ps : List (List Byte)} (l : List Byte) (m : Nat) (w : World) (hV : Sl w 1 A n vs) (hP : Parts w vs ps) (hfl : ps.flatten = l) (hm : l.length = m) (h0 : 0 < m) (hT : m ≤ 1000000) (hn : n ≤ 1000) : Calls Try.prog 110 #[.slice A n c] w fun e w' => ∃ A' c', e = .returned (.slice A' m c') ∧ Own w' w.heap.size 5 1 A' m c' (l.map u8v) ∧ Le w w' := by
  subst hfl hm
  exact concat_ok w hV hP h0 hT hn
theorem one6 {A B C D E F : Option Addr} {a b c d e f a' b' c' d' e' f' : Nat} : ∀ v ∈ [Value.slice A a a', Value.slice B b b', Value.slice C c c', Value.slice D d d', Value.slice E e e', Value.slice F f f'], v.oneCell' = true := fun v hv => by
  simp at hv; rcases hv with rfl | rfl | rfl | rfl | rfl | rfl <;> rfl
theorem one3 {A B C : Option Addr} {a b c a' b' c' : Nat} : ∀ v ∈ [Value.slice A a a', Value.slice B b b', Value.slice C c c'], v.oneCell' = true := fun v hv => by
  simp at hv; rcases hv with rfl | rfl | rfl <;> rfl

theorem lay_ok (h : Hop) (w : World) : Calls Try.prog 111 #[.agg (hopV h).toArray] w fun e w' => ∃ A' c', e = .returned (.slice A' 48 c') ∧ Own w' w.heap.size 5 1 A' 48 c' ((layB h).map u8v) ∧ Le w w' := by
  refine enter Try.func111 rfl rfl ?_
  have L0 := Le.refl w
  refine WC.seq ?_
  refine WC.region ?_
  refine W.ef rfl rfl rfl ?_
  refine Ef.boxA rfl ?_
  intro g0_0 w0_0 hg0_0 b0_0 h0_0
  have L0_0 := L0.trans h0_0
  have LL := Le.refl w0_0
  refine W.any (.assign rfl) rfl rfl rfl ?_
  refine W.nil ?_
  refine E.thenN ?_
  refine WC.seq ?_
  refine WC.draw [0, 1, 2, 4, 5, 6, 8, 9, 10, 12, 13, 14, 16, 17, 19, 20, 3, 7, 11, 15, 18, 21, 22, 23, 24] mixed (by kernel_rfl) ?_
  intro w1 d1
  have L1 := LL.trans d1
  refine G.any rfl rfl (.field0 fa95_0 rfl) rfl rfl rfl ?_
  refine G.rd rfl rfl (.loadB na3 rfl (b0_0.le L1) (rfl)) rfl rfl rfl ?_
  refine G.rd rfl rfl (.convEq (isS Try.underlying3) Try.underlying29 rfl (wrap_usg _)) rfl rfl rfl ?_
  refine G.any rfl rfl (.field0 fa95_1 rfl) rfl rfl rfl ?_
  refine G.rd rfl rfl (.loadB na3 rfl (b0_0.le L1) (rfl)) rfl rfl rfl ?_
  refine G.rd rfl rfl (.convEq (isS Try.underlying3) Try.underlying29 rfl (wrap_usg _)) rfl rfl rfl ?_
  refine G.any rfl rfl (.field0 fa95_2 rfl) rfl rfl rfl ?_
  refine G.rd rfl rfl (.loadB na3 rfl (b0_0.le L1) (rfl)) rfl rfl rfl ?_
  refine G.rd rfl rfl (.convEq (isS Try.underlying3) Try.underlying29 rfl (wrap_usg _)) rfl rfl rfl ?_
  refine G.any rfl rfl (.field0 fa95_3 rfl) rfl rfl rfl ?_
  refine G.rd rfl rfl (.loadB na3 rfl (b0_0.le L1) (rfl)) rfl rfl rfl ?_
  refine G.rd rfl rfl (.convEq (isS Try.underlying3) Try.underlying29 rfl (wrap_usg _)) rfl rfl rfl ?_
  refine G.any rfl rfl (.field0 fa95_4 rfl) rfl rfl rfl ?_
  refine G.rd rfl rfl (.loadB na31 rfl (b0_0.le L1) (rfl)) rfl rfl rfl ?_
  refine G.any rfl rfl (.field0 fa95_5 rfl) rfl rfl rfl ?_
  refine G.rd rfl rfl (.loadB na30 rfl (b0_0.le L1) (rfl)) rfl rfl rfl ?_
  refine G.ef rfl rfl rfl rfl rfl ?_
  refine Ef.call go115 rfl rfl (eight_ok (usg h.1) w1) ?_
  rintro _ w1_3 ⟨g3, rfl, hg3, B3, h1_3⟩
  refine ⟨_, rfl, ?_⟩
  have L1_3 := L1.trans h1_3
  refine ⟨fun _ => h1_3, ?_⟩
  refine G.ef rfl rfl rfl rfl rfl ?_
  refine Ef.call go115 rfl rfl (eight_ok (usg h.2.1) w1_3) ?_
  rintro _ w1_7 ⟨g7, rfl, hg7, B7, h1_7⟩
  refine ⟨_, rfl, ?_⟩
  have L1_7 := L1_3.trans h1_7
  refine ⟨fun _ => h1_7, ?_⟩
  have B3 := B3.le h1_7
  refine G.ef rfl rfl rfl rfl rfl ?_
  refine Ef.call go115 rfl rfl (eight_ok (usg h.2.2.1) w1_7) ?_
  rintro _ w1_11 ⟨g11, rfl, hg11, B11, h1_11⟩
  refine ⟨_, rfl, ?_⟩
  have L1_11 := L1_7.trans h1_11
  refine ⟨fun _ => h1_11, ?_⟩
  have B3 := B3.le h1_11
  have B7 := B7.le h1_11
  refine G.ef rfl rfl rfl rfl rfl ?_
  refine Ef.call go115 rfl rfl (eight_ok (usg h.2.2.2.1) w1_11) ?_
  rintro _ w1_15 ⟨g15, rfl, hg15, B15, h1_15⟩
  refine ⟨_, rfl, ?_⟩
  have L1_15 := L1_11.trans h1_15
  refine ⟨fun _ => h1_15, ?_⟩
  have B3 := B3.le h1_15
  have B7 := B7.le h1_15
  have B11 := B11.le h1_15
  refine G.ef rfl rfl rfl rfl rfl ?_
  refine Ef.call go115 rfl rfl (eight_ok (h.2.2.2.2.1) w1_15) ?_
  rintro _ w1_18 ⟨g18, rfl, hg18, B18, h1_18⟩
  refine ⟨_, rfl, ?_⟩
  have L1_18 := L1_15.trans h1_18
  refine ⟨fun _ => h1_18, ?_⟩
  have B3 := B3.le h1_18
  have B7 := B7.le h1_18
  have B11 := B11.le h1_18
  have B15 := B15.le h1_18
  refine G.ef rfl rfl rfl rfl rfl ?_
  refine Ef.call go115 rfl rfl (eight_ok (h.2.2.2.2.2) w1_18) ?_
  rintro _ w1_21 ⟨g21, rfl, hg21, B21, h1_21⟩
  refine ⟨_, rfl, ?_⟩
  have L1_21 := L1_18.trans h1_21
  refine ⟨fun _ => h1_21, ?_⟩
  have B3 := B3.le h1_21
  have B7 := B7.le h1_21
  have B11 := B11.le h1_21
  have B15 := B15.le h1_21
  have B18 := B18.le h1_21
  refine G.ef rfl rfl rfl rfl rfl ?_
  refine Ef.buildSliceN [_, _, _, _, _, _] Try.underlying211 el107 rfl one6 rfl (by decide) (by decide) ?_
  intro g1_22 w1_22 hg1_22 b1_22 h1_22
  have L1_22 := L1_21.trans h1_22
  refine ⟨fun _ => h1_22, ?_⟩
  have B3 := B3.le h1_22
  have B7 := B7.le h1_22
  have B11 := B11.le h1_22
  have B15 := B15.le h1_22
  have B18 := B18.le h1_22
  have B21 := B21.le h1_22
  refine G.ef rfl rfl rfl rfl rfl ?_
  refine Ef.call go110 rfl rfl (concat_to (layB h) 48 w1_22 (b1_22.sl (s := 1) (n := 6) rfl) (.cons (B3.sb (be8_length _)) (.cons (B7.sb (be8_length _)) (.cons (B11.sb (be8_length _)) (.cons (B15.sb (be8_length _)) (.cons (B18.sb (be8_length _)) (.cons (B21.sb (be8_length _)) (.nil _))))))) (by simp [layB]) (layB_length h) (by decide) (by decide) (by decide)) ?_
  rintro _ w1_23 ⟨A1, c1, rfl, o1, h1_23⟩
  refine ⟨_, rfl, ?_⟩
  have L1_23 := L1_22.trans h1_23
  refine ⟨fun _ => h1_23, ?_⟩
  refine G.any rfl rfl (.assign rfl) rfl rfl rfl ?_
  refine G.nil ?_
  refine E.thenN ?_
  refine WC.ret ?_
  refine E.ret1 rfl rfl ?_
  exact ⟨A1, c1, rfl, o1.mono (Nat.le_trans h0_0.size (Nat.le_trans d1.size (Nat.le_trans h1_3.size (Nat.le_trans h1_7.size (Nat.le_trans h1_11.size (Nat.le_trans h1_15.size (Nat.le_trans h1_18.size (Nat.le_trans h1_21.size h1_22.size)))))))), h0_0.trans L1_23⟩

theorem read_okO {A : Option Addr} {n c : Nat} {xs : List Byte} (w : World) (hS : Sb w A n xs) (h48 : 48 ≤ n) (hc : n ≤ c) : Calls Try.prog 118 #[.slice A n c] w fun e w' => e = .returned (.agg (hopV (readH xs)).toArray) ∧ Le w w' := by
  refine enter Try.func118 rfl rfl ?_
  have L0 := Le.refl w
  refine WC.seq ?_
  refine WC.region ?_
  refine W.ef rfl rfl rfl ?_
  refine Ef.allocA z95 ?_
  intro g0_0 w0_0 hg0_0 b0_0 h0_0
  have L0_0 := L0.trans h0_0
  have b0 : Blk w0_0 g0_0 95 #[.int .i64 0, .int .i64 0, .int .i64 0, .int .i64 0, .int .u64 0, .int .u64 0] := b0_0
  refine W.nil ?_
  refine E.thenN ?_
  refine WC.seq ?_
  refine WC.drawS (fun w1 w' => Ch w1 w' (some g0_0)) [0, 3, 4, 7, 8, 11, 12, 1, 2, 15, 5, 6, 9, 10, 13, 14, 16, 17, 18, 19, 20, 21, 22] mixed (by kernel_rfl) ?_
  intro w1 d1
  refine ⟨Ch.refl _ _, ?_⟩
  have L1 := L0_0.trans d1
  refine GS.any rfl rfl (.move rfl) rfl rfl rfl ?_
  refine GS.any rfl rfl (.move rfl) rfl rfl rfl ?_
  refine GS.any rfl rfl (.cutL (8) Try.underlying107 sz5 rfl rfl (rfl) (by omega) (hc)) rfl rfl rfl ?_
  refine GS.any rfl rfl (.move rfl) rfl rfl rfl ?_
  refine GS.any rfl rfl (.cutL (16) Try.underlying107 sz5 rfl rfl (rfl) (by omega) (hc)) rfl rfl rfl ?_
  refine GS.any rfl rfl (.move rfl) rfl rfl rfl ?_
  refine GS.any rfl rfl (.cutL (24) Try.underlying107 sz5 rfl rfl (rfl) (by omega) (hc)) rfl rfl rfl ?_
  refine GS.ef rfl rfl rfl rfl rfl ?_
  refine Ef.call go116 rfl rfl (number_ok w1 (hS.le L1) (by omega) hc) ?_
  rintro _ w1_1 ⟨rfl, h1_1⟩
  refine ⟨_, rfl, ?_⟩
  have L1_1 := L1.trans h1_1
  have k1_1 := h1_1.ch (some g0_0)
  refine ⟨k1_1, ?_⟩
  refine GS.rd rfl rfl (fun w' hs => .convEq (isS Try.underlying29) Try.underlying3 rfl (wrap_sgn _ (numB_lt _))) rfl rfl rfl ?_
  refine GS.any rfl rfl (.field0 fa95_0 rfl) rfl rfl rfl ?_
  refine GS.ef rfl rfl rfl rfl rfl ?_
  refine Ef.call go116 rfl rfl (number_ok w1_1 ((hS.le L1_1).cutL c 8 (by omega) hc) (by omega) (by omega)) ?_
  rintro _ w1_5 ⟨rfl, h1_5⟩
  refine ⟨_, rfl, ?_⟩
  have L1_5 := L1_1.trans h1_5
  have k1_5 := k1_1.trans (h1_5.ch _)
  refine ⟨k1_5, ?_⟩
  refine GS.rd rfl rfl (fun w' hs => .convEq (isS Try.underlying29) Try.underlying3 rfl (wrap_sgn _ (numB_lt _))) rfl rfl rfl ?_
  refine GS.ef rfl rfl rfl rfl rfl ?_
  refine Ef.call go116 rfl rfl (number_ok w1_5 ((hS.le L1_5).cutL c 16 (by omega) hc) (by omega) (by omega)) ?_
  rintro _ w1_9 ⟨rfl, h1_9⟩
  refine ⟨_, rfl, ?_⟩
  have L1_9 := L1_5.trans h1_9
  have k1_9 := k1_5.trans (h1_9.ch _)
  refine ⟨k1_9, ?_⟩
  refine GS.rd rfl rfl (fun w' hs => .convEq (isS Try.underlying29) Try.underlying3 rfl (wrap_sgn _ (numB_lt _))) rfl rfl rfl ?_
  refine GS.ef rfl rfl rfl rfl rfl ?_
  refine Ef.call go116 rfl rfl (number_ok w1_9 ((hS.le L1_9).cutL c 24 (by omega) hc) (by omega) (by omega)) ?_
  rintro _ w1_13 ⟨rfl, h1_13⟩
  refine ⟨_, rfl, ?_⟩
  have L1_13 := L1_9.trans h1_13
  have k1_13 := k1_9.trans (h1_13.ch _)
  refine ⟨k1_13, ?_⟩
  refine GS.rd rfl rfl (fun w' hs => .convEq (isS Try.underlying29) Try.underlying3 rfl (wrap_sgn _ (numB_lt _))) rfl rfl rfl ?_
  refine GS.ef0 rfl rfl rfl rfl ?_
  refine Ef.store sz3 rfl rfl (b0.le (d1.trans (h1_1.trans (h1_5.trans (h1_9.trans h1_13))))) (by simp) (rfl) ?_
  intro w1_16 b1_16 h1_16
  have L1_16 : Le w w1_16 := L1_13.then_ h1_16 (fun q hq => by cases hq; exact hg0_0)
  have k1_16 := k1_13.trans h1_16
  refine ⟨k1_16, ?_⟩
  refine GS.any rfl rfl (.field0 fa95_1 rfl) rfl rfl rfl ?_
  refine GS.ef0 rfl rfl rfl rfl ?_
  refine Ef.store sz3 rfl rfl (b1_16) (by simp) (rfl) ?_
  intro w1_18 b1_18 h1_18
  have L1_18 : Le w w1_18 := L1_16.then_ h1_18 (fun q hq => by cases hq; exact hg0_0)
  have k1_18 := k1_16.trans h1_18
  refine ⟨k1_18, ?_⟩
  refine GS.any rfl rfl (.field0 fa95_2 rfl) rfl rfl rfl ?_
  refine GS.ef0 rfl rfl rfl rfl ?_
  refine Ef.store sz3 rfl rfl (b1_18) (by simp) (rfl) ?_
  intro w1_20 b1_20 h1_20
  have L1_20 : Le w w1_20 := L1_18.then_ h1_20 (fun q hq => by cases hq; exact hg0_0)
  have k1_20 := k1_18.trans h1_20
  refine ⟨k1_20, ?_⟩
  refine GS.any rfl rfl (.field0 fa95_3 rfl) rfl rfl rfl ?_
  refine GS.ef0 rfl rfl rfl rfl ?_
  refine Ef.store sz3 rfl rfl (b1_20) (by simp) (rfl) ?_
  intro w1_22 b1_22 h1_22
  have L1_22 : Le w w1_22 := L1_20.then_ h1_22 (fun q hq => by cases hq; exact hg0_0)
  have k1_22 := k1_20.trans h1_22
  refine ⟨k1_22, ?_⟩
  refine GS.nil ?_
  refine E.thenN ?_
  refine WC.seq ?_
  refine WC.draw [0, 1, 3, 4, 2, 6, 5, 7, 8, 9] mixed (by kernel_rfl) ?_
  intro w2 d2
  have L2 := L1_22.trans d2
  refine G.any rfl rfl (.move rfl) rfl rfl rfl ?_
  refine G.any rfl rfl (.cutL (32) Try.underlying107 sz5 rfl rfl (rfl) (by omega) (hc)) rfl rfl rfl ?_
  refine G.any rfl rfl (.move rfl) rfl rfl rfl ?_
  refine G.any rfl rfl (.cutL (40) Try.underlying107 sz5 rfl rfl (rfl) (by omega) (hc)) rfl rfl rfl ?_
  refine G.ef rfl rfl rfl rfl rfl ?_
  refine Ef.call go116 rfl rfl (number_ok w2 ((hS.le L2).cutL c 32 (by omega) hc) (by omega) (by omega)) ?_
  rintro _ w2_2 ⟨rfl, h2_2⟩
  refine ⟨_, rfl, ?_⟩
  have L2_2 := L2.trans h2_2
  refine ⟨fun _ => h2_2, ?_⟩
  refine G.any rfl rfl (.field0 fa95_4 rfl) rfl rfl rfl ?_
  refine G.ef rfl rfl rfl rfl rfl ?_
  refine Ef.call go116 rfl rfl (number_ok w2_2 ((hS.le L2_2).cutL c 40 (by omega) hc) (by omega) (by omega)) ?_
  rintro _ w2_5 ⟨rfl, h2_5⟩
  refine ⟨_, rfl, ?_⟩
  have L2_5 := L2_2.trans h2_5
  refine ⟨fun _ => h2_5, ?_⟩
  refine G.ef0 rfl rfl rfl rfl ?_
  refine Ef.store sz31 rfl rfl (b1_22.le (d2.trans (h2_2.trans h2_5))) (by simp) (rfl) ?_
  intro w2_7 b2_7 h2_7
  have L2_7 : Le w w2_7 := L2_5.then_ h2_7 (fun q hq => by cases hq; exact hg0_0)
  refine ⟨fun h => absurd h (ne_true_of_eq_false (by kernel_rfl)), ?_⟩
  refine G.any rfl rfl (.field0 fa95_5 rfl) rfl rfl rfl ?_
  refine G.ef0 rfl rfl rfl rfl ?_
  refine Ef.store sz30 rfl rfl (b2_7) (by simp) (rfl) ?_
  intro w2_9 b2_9 h2_9
  have L2_9 : Le w w2_9 := L2_7.then_ h2_9 (fun q hq => by cases hq; exact hg0_0)
  refine ⟨fun h => absurd h (ne_true_of_eq_false (by kernel_rfl)), ?_⟩
  have b9 : Blk w2_9 g0_0 95 (hopV (readH xs)).toArray := b2_9.cast (by rfl)
  refine G.nil ?_
  refine E.thenN ?_
  refine WC.seq ?_
  refine WC.region ?_
  refine W.rd (.loadAll ag95 (by rfl) rfl (b9)) rfl rfl rfl ?_
  refine W.ef0 rfl rfl ?_
  refine Ef.storeAll sz95 (by rfl) rfl rfl (b9) (by rfl) (hopV_one _) ?_
  intro w3_1 b3_1 h3_1
  have L3_1 : Le w w3_1 := L2_9.then_ h3_1 (fun q hq => by cases hq; exact hg0_0)
  refine W.nil ?_
  refine E.thenN ?_
  refine WC.ret ?_
  refine E.retC rfl rfl b3_1 ag95 (by rfl) ?_
  exact ⟨rfl, L3_1⟩

theorem stopped_ok (ee both : Nat) (w : World) : Calls Try.prog 117 #[.int .u64 ((ee : Nat) : Int), .int .u64 ((both : Nat) : Int)] w fun e w' => e = .returned (.agg (stopV (ee, sharedB both)).toArray) ∧ Le w w' := by
  refine enter Try.func117 rfl rfl ?_
  have L0 := Le.refl w
  refine WC.seq ?_
  refine WC.region ?_
  refine W.ef rfl rfl rfl ?_
  refine Ef.allocA z179 ?_
  intro g0_0 w0_0 hg0_0 b0_0 h0_0
  have L0_0 := L0.trans h0_0
  refine W.nil ?_
  refine E.thenN ?_
  refine WC.seq ?_
  refine WC.region ?_
  refine W.any (.move rfl) rfl rfl rfl ?_
  refine W.any (.move rfl) rfl rfl rfl ?_
  refine W.ef rfl rfl rfl ?_
  refine Ef.call go115 rfl rfl (eight_ok both w0_0) ?_
  rintro _ w1_2 ⟨g2, rfl, hg2, B2, h1_2⟩
  refine ⟨_, rfl, ?_⟩
  have L1_2 := L0_0.trans h1_2
  refine W.ef rfl rfl rfl ?_
  refine Ef.buildSlice1 Try.underlying211 el107 rfl rfl ?_
  intro g1_3 w1_3 hg1_3 b1_3 h1_3
  have L1_3 := L1_2.trans h1_3
  have B2 := B2.le h1_3
  refine W.ef rfl rfl rfl ?_
  refine Ef.call go107 rfl rfl (tag_ok _ nShared w1_3 (ps := [be8 both]) rfl (b1_3.sl (s := 1) (n := 1) rfl) (.cons (B2.sb (be8_length _)) (.nil _)) (by rw [tagLen1, be8_length]; decide)) ?_
  rintro _ w1_4 ⟨rfl, h1_4⟩
  refine ⟨_, rfl, ?_⟩
  have L1_4 := L1_3.trans h1_4
  refine W.any (.as (Any.buildAll [.int .u64 (ee : Nat), .agg ((sharedB both).map u8v).toArray] pl179 z179 rfl ⟨rfl, by simp [Value.cells, sharedB_length], trivial⟩ (by simp [flatV, Value.cells, sharedB_length])) (show _ = Value.agg (stopV (ee, sharedB both)).toArray by simp [flatV, Value.cells, stopV])) rfl rfl rfl ?_
  refine W.ef0 rfl rfl ?_
  refine Ef.storeAll sz179 (by simp [stopV, sharedB_length]) rfl rfl (((b0_0.le h1_2).le h1_3).le h1_4) (by simp [stopV, sharedB_length]) (stopV_one _) ?_
  intro w1_6 b1_6 h1_6
  have L1_6 : Le w w1_6 := L1_4.then_ h1_6 (fun q hq => by cases hq; exact hg0_0)
  refine W.nil ?_
  refine E.thenN ?_
  refine WC.ret ?_
  refine E.retC rfl rfl b1_6 ag179 (by simp [stopV, sharedB_length]) ?_
  exact ⟨rfl, L1_6⟩

theorem blind_ok (s : Stop) (hs : s.2.length = 32) (w : World) : Calls Try.prog 119 #[.agg (stopV s).toArray] w fun e w' => e = .returned (.int .u64 ((blindB s : Nat) : Int)) ∧ Le w w' := by
  refine enter Try.func119 rfl rfl ?_
  have L0 := Le.refl w
  refine WC.seq ?_
  refine WC.region ?_
  refine W.ef rfl rfl rfl ?_
  refine Ef.boxA rfl ?_
  intro g0_0 w0_0 hg0_0 b0_0 h0_0
  have L0_0 := L0.trans h0_0
  have LL := Le.refl w0_0
  refine W.any (.assign rfl) rfl rfl rfl ?_
  refine W.nil ?_
  refine E.thenN ?_
  refine WC.seq ?_
  refine WC.draw [0, 1, 3, 4, 2, 5, 6, 7, 8] mixed (by kernel_rfl) ?_
  intro w1 d1
  have L1 := LL.trans d1
  refine G.any rfl rfl (.field0 fa179_0 rfl) rfl rfl rfl ?_
  refine G.rd rfl rfl (.loadB na31 rfl (b0_0.le L1) (rfl)) rfl rfl rfl ?_
  refine G.any rfl rfl (.field0 fa179_1 rfl) rfl rfl rfl ?_
  refine G.any rfl rfl (.cutArrO Try.underlying89 sz5 (by decide) rfl) rfl rfl rfl ?_
  refine G.ef rfl rfl rfl rfl rfl ?_
  refine Ef.call go115 rfl rfl (eight_ok s.1 w1) ?_
  rintro _ w1_2 ⟨g2, rfl, hg2, B2, h1_2⟩
  refine ⟨_, rfl, ?_⟩
  have L1_2 := L1.trans h1_2
  refine ⟨fun _ => h1_2, ?_⟩
  refine G.ef rfl rfl rfl rfl rfl ?_
  refine Ef.buildSliceN [_, _] Try.underlying211 el107 rfl (one2 _ _ _ _ _ _) rfl (by decide) (by decide) ?_
  intro g1_5 w1_5 hg1_5 b1_5 h1_5
  have L1_5 := L1_2.trans h1_5
  refine ⟨fun _ => h1_5, ?_⟩
  refine G.ef rfl rfl rfl rfl rfl ?_
  refine Ef.call go107 rfl rfl (tag_ok _ nBlind w1_5 (ps := [be8 s.1, s.2]) rfl (b1_5.sl (s := 1) (n := 2) rfl) (.cons ((B2.le h1_5).sb (be8_length _)) (.cons ((b0_0.le L1_5).sbAt 1 32 s.2 hs (stopV_at s)) (.nil _))) (by rw [tagLen2, be8_length, hs]; decide)) ?_
  rintro _ w1_6 ⟨rfl, h1_6⟩
  refine ⟨_, rfl, ?_⟩
  have L1_6 := L1_5.trans h1_6
  refine ⟨fun _ => h1_6, ?_⟩
  refine G.ef rfl rfl rfl rfl rfl ?_
  refine Ef.call go139 rfl rfl (from_ok _ (tag_length _ _) w1_6) ?_
  rintro _ w1_7 ⟨rfl, h1_7⟩
  refine ⟨_, rfl, ?_⟩
  have L1_7 := L1_6.trans h1_7
  refine ⟨fun _ => h1_7, ?_⟩
  refine G.any rfl rfl (.assign rfl) rfl rfl rfl ?_
  refine G.nil ?_
  refine E.thenN ?_
  refine WC.ret ?_
  refine E.ret1 rfl rfl ?_
  exact ⟨rfl, h0_0.trans L1_7⟩

theorem rho_ok (s : Stop) (hs : s.2.length = 32) (n : Nat) (hn : n ≤ 65536) (w : World) : Calls Try.prog 112 #[.agg (stopV s).toArray, .int .i64 (n : Int)] w fun e w' => ∃ A c, e = .returned (.slice A n c) ∧ Own w' w.heap.size 5 1 A n c ((rho s n).map u8v) ∧ Le w w' := by
  refine enter Try.func112 rfl rfl ?_
  have L0 := Le.refl w
  refine WC.seq ?_
  refine WC.region ?_
  refine W.ef rfl rfl rfl ?_
  refine Ef.boxA rfl ?_
  intro g0_0 w0_0 hg0_0 b0_0 h0_0
  have L0_0 := L0.trans h0_0
  have LL := Le.refl w0_0
  refine W.any (.assign rfl) rfl rfl rfl ?_
  refine W.nil ?_
  refine E.thenN ?_
  refine WC.seq ?_
  refine WC.region ?_
  refine W.any (.field0 fa179_1 rfl) rfl rfl rfl ?_
  refine W.any (.cutArrO Try.underlying89 sz5 (by decide) rfl) rfl rfl rfl ?_
  refine W.ef rfl rfl rfl ?_
  refine Ef.buildSlice1 Try.underlying211 el107 rfl rfl ?_
  intro g1_2 w1_2 hg1_2 b1_2 h1_2
  have L1_2 := LL.trans h1_2
  refine W.ef rfl rfl rfl ?_
  refine Ef.call go107 rfl rfl (tag_ok _ nRho w1_2 (ps := [s.2]) rfl (b1_2.sl (s := 1) (n := 1) rfl) (.cons ((b0_0.le L1_2).sbAt 1 32 s.2 hs (stopV_at s)) (.nil _)) (by rw [tagLen1, hs]; decide)) ?_
  rintro _ w1_3 ⟨rfl, h1_3⟩
  refine ⟨_, rfl, ?_⟩
  have L1_3 := L1_2.trans h1_3
  refine W.any (.move rfl) rfl rfl rfl ?_
  refine W.ef rfl rfl rfl ?_
  refine Ef.call go106 rfl rfl (stream_ok _ (tag_length _ _) n hn w1_3) ?_
  rintro _ w1_5 ⟨A1, c1, rfl, o1, h1_5⟩
  refine ⟨_, rfl, ?_⟩
  have L1_5 := L1_3.trans h1_5
  refine W.any (.assign rfl) rfl rfl rfl ?_
  refine W.nil ?_
  refine E.thenN ?_
  refine WC.ret ?_
  refine E.ret1 rfl rfl ?_
  exact ⟨A1, c1, rfl, o1.mono (h0_0.trans L1_3).size, h0_0.trans L1_5⟩

theorem mac_ok (s : Stop) (hs : s.2.length = 32) {A : Option Addr} {n c : Nat} {xs : List Byte} (w : World) (hS : Sb w A n xs) (hn : n ≤ 1000000) : Calls Try.prog 114 #[.agg (stopV s).toArray, .slice A n c] w fun e w' => e = .returned (.agg ((macB s xs).map u8v).toArray) ∧ Le w w' := by
  refine enter Try.func114 rfl rfl ?_
  have L0 := Le.refl w
  refine WC.seq ?_
  refine WC.region ?_
  refine W.ef rfl rfl rfl ?_
  refine Ef.boxA rfl ?_
  intro g0_0 w0_0 hg0_0 b0_0 h0_0
  have L0_0 := L0.trans h0_0
  have LL := Le.refl w0_0
  refine W.ef rfl rfl rfl ?_
  refine Ef.allocA z89 ?_
  intro g0_1 w0_1 hg0_1 b0_1 h0_1
  have L0_1 := LL.trans h0_1
  refine W.nil ?_
  refine E.thenN ?_
  refine WC.seq ?_
  refine WC.region ?_
  refine W.any (.field0 fa179_1 rfl) rfl rfl rfl ?_
  refine W.any (.cutArrO Try.underlying89 sz5 (by decide) rfl) rfl rfl rfl ?_
  refine W.any (.move rfl) rfl rfl rfl ?_
  refine W.ef rfl rfl rfl ?_
  refine Ef.buildSliceN [_, _] Try.underlying211 el107 rfl (one2 _ _ _ _ _ _) rfl (by decide) (by decide) ?_
  intro g1_3 w1_3 hg1_3 b1_3 h1_3
  have L1_3 := L0_1.trans h1_3
  refine W.ef rfl rfl rfl ?_
  refine Ef.call go107 rfl rfl (tag_ok _ nMac w1_3 (ps := [s.2, xs]) rfl (b1_3.sl (s := 1) (n := 2) rfl) (.cons ((b0_0.le L1_3).sbAt 1 32 s.2 hs (stopV_at s)) (.cons (hS.le (h0_0.trans L1_3)) (.nil _))) (by rw [tagLen2, hs, hS.len]; show 24 + 3 + 32 + n ≤ _; omega)) ?_
  rintro _ w1_4 ⟨rfl, h1_4⟩
  refine ⟨_, rfl, ?_⟩
  have L1_4 := L1_3.trans h1_4
  refine W.ef0 rfl rfl ?_
  refine Ef.storeAll sz89 (by simp [tag_length]) rfl rfl ((b0_1.le h1_3).le h1_4) (by simp [tag_length]) (all_u8v _) ?_
  intro w1_5 b1_5 h1_5
  have L1_5 : Le w0_0 w1_5 := L1_4.then_ h1_5 (fun q hq => by cases hq; exact hg0_1)
  refine W.nil ?_
  refine E.thenN ?_
  refine WC.ret ?_
  refine E.retC rfl rfl b1_5 ag89 (by simp [tag_length]) ?_
  exact ⟨rfl, h0_0.trans L1_5⟩

theorem pright_T (a : Nat) (ha : a < 18446744073709551616) (h : right a = true) (w : World) : Calls Try.prog 90 #[.int .u64 ((a : Nat) : Int)] w fun e w' => e = .returned (.bool true) ∧ Le w w' := by
  have := pright_ok a ha w
  rwa [h] at this

theorem pright_F (a : Nat) (ha : a < 18446744073709551616) (h : right a = false) (w : World) : Calls Try.prog 90 #[.int .u64 ((a : Nat) : Int)] w fun e w' => e = .returned (.bool false) ∧ Le w w' := by
  have := pright_ok a ha w
  rwa [h] at this

set_option maxHeartbeats 1000000 in
theorem way_ok (seed : List Byte) (hse : seed.length = 32) {A : Option Addr} {n c : Nat} {ks : List Nat} (w : World) (hK : Sl w 1 A n (ks.map pv)) (hks : ∀ k ∈ ks, k < 18446744073709551616) (hn : n ≤ 1000000) : Calls Try.prog 104 #[.slice A n c, .agg (seed.map u8v).toArray] w fun e w' => Le w w' ∧ ((keysOk ks = true ∧ ∃ A' c', e = .returned (.tuple #[.slice A' n c', .bool true]) ∧ Own w' w.heap.size 179 33 A' n c' (stopRows (wayB (startX seed) ks)).flatten) ∨ (keysOk ks = false ∧ e = .returned (.tuple #[.slice none 0 0, .bool false]))) := by
  have hkl0 := hK.1
  rw [List.length_map, Nat.mul_one] at hkl0
  refine enter Try.func104 rfl rfl ?_
  have L0 := Le.refl w
  refine WC.seq ?_
  refine WC.region ?_
  refine W.ef rfl rfl rfl ?_
  refine Ef.boxA rfl ?_
  intro g0_0 w0_0 hg0_0 b0_0 h0_0
  have L0_0 := L0.trans h0_0
  refine W.any (.assign rfl) rfl rfl rfl ?_
  refine W.any (.assign rfl) rfl rfl rfl ?_
  refine W.nil ?_
  refine E.thenN ?_
  refine WC.seq ?_
  refine WC.seq ?_
  refine WC.region ?_
  refine W.any (.move rfl) rfl rfl rfl ?_
  refine W.rd (.len Try.underlying60 rfl) rfl rfl rfl ?_
  by_cases hl1 : n < 1
  · refine W.any (.dec (.lss rfl rfl) (decide_eq_true (by omega))) rfl rfl rfl ?_
    refine W.any (.move rfl) rfl rfl rfl ?_
    refine W.skip rfl rfl rfl (rfl) rfl rfl ?_
    refine W.skip rfl rfl rfl (rfl) rfl rfl ?_
    refine W.skip rfl rfl rfl (rfl) rfl rfl ?_
    refine W.any (.pickT rfl rfl rfl) rfl rfl rfl ?_
    refine W.nil ?_
    refine E.thenN ?_
    refine WC.condT rfl ?_
    refine WC.seq ?_
    refine WC.region ?_
    refine W.any (.assign rfl) rfl rfl rfl ?_
    refine W.any (.assign rfl) rfl rfl rfl ?_
    refine W.nil ?_
    refine E.thenN ?_
    refine WC.ret ?_
    refine E.thenR ?_
    refine E.ret2 rfl rfl rfl ?_
    exact ⟨L0_0, .inr ⟨by simp [keysOk]; omega, rfl⟩⟩
  · refine W.any (.dec (.lss rfl rfl) (decide_eq_false (by omega))) rfl rfl rfl ?_
    refine W.any (.move rfl) rfl rfl rfl ?_
    refine W.rdg (Any.rd (.move rfl) _) rfl rfl rfl (rfl) rfl rfl ?_
    refine W.rdg (.len Try.underlying60 rfl) rfl rfl rfl (rfl) rfl rfl ?_
    by_cases hl8 : 8 < n
    · refine W.rdg (Any.rd (.dec (.gtr rfl rfl) (decide_eq_true (by omega))) _) rfl rfl rfl (rfl) rfl rfl ?_
      refine W.any (.pickF rfl rfl rfl) rfl rfl rfl ?_
      refine W.nil ?_
      refine E.thenN ?_
      refine WC.condT rfl ?_
      refine WC.seq ?_
      refine WC.region ?_
      refine W.any (.assign rfl) rfl rfl rfl ?_
      refine W.any (.assign rfl) rfl rfl rfl ?_
      refine W.nil ?_
      refine E.thenN ?_
      refine WC.ret ?_
      refine E.thenR ?_
      refine E.ret2 rfl rfl rfl ?_
      exact ⟨L0_0, .inr ⟨by simp [keysOk]; omega, rfl⟩⟩
    · refine W.rdg (Any.rd (.dec (.gtr rfl rfl) (decide_eq_false (by omega))) _) rfl rfl rfl (rfl) rfl rfl ?_
      refine W.any (.pickF rfl rfl rfl) rfl rfl rfl ?_
      refine W.nil ?_
      refine E.thenN ?_
      refine WC.condF rfl ?_
      refine WC.skip ?_
      refine E.thenN ?_
      refine WC.seq ?_
      refine WC.region ?_
      refine W.any (.cutArr Try.underlying89 sz5 rfl) rfl rfl rfl ?_
      refine W.ef rfl rfl rfl ?_
      refine Ef.buildSlice1 Try.underlying211 el107 rfl rfl ?_
      intro g3_1 w3_1 hg3_1 b3_1 h3_1
      have L3_1 := L0_0.trans h3_1
      refine W.ef rfl rfl rfl ?_
      refine Ef.call go107 rfl rfl (tag_ok _ nOnion w3_1 (ps := [seed]) rfl (b3_1.sl (s := 1) (n := 1) rfl) (.cons ((b0_0.le h3_1).sb hse) (.nil _)) (by rw [tagLen1, hse]; decide)) ?_
      rintro _ w3_2 ⟨rfl, h3_2⟩
      refine ⟨_, rfl, ?_⟩
      have L3_2 := L3_1.trans h3_2
      refine W.ef rfl rfl rfl ?_
      refine Ef.call go139 rfl rfl (from_ok _ (tag_length _ _) w3_2) ?_
      rintro _ w3_3 ⟨rfl, h3_3⟩
      refine ⟨_, rfl, ?_⟩
      have L3_3 := L3_2.trans h3_3
      refine W.any (.assign rfl) rfl rfl rfl ?_
      refine W.nil ?_
      refine E.thenN ?_
      refine WC.seq ?_
      refine WC.seq ?_
      refine WC.region ?_
      refine W.any (.move rfl) rfl rfl rfl ?_
      refine W.rd (.len Try.underlying60 rfl) rfl rfl rfl ?_
      refine W.any (.move rfl) rfl rfl rfl ?_
      refine W.nil ?_
      refine E.thenN ?_
      refine WC.block ?_
      refine WC.loop (ι := Nat × Option Addr × Nat) (fun ⟨k, A1, cp⟩ => [(4, .slice A1 k cp), (6, .int .u64 ((xAt (startX seed) (ks.take k) : Nat) : Int)), (22, .slice A n c), (23, .int .i64 (n : Int)), (24, .int .i64 (k : Int))]) (fun ⟨k, A1, cp⟩ wl => k ≤ n ∧ Le w wl ∧ (ks.take k).all keyOk = true ∧ Own wl w.heap.size 179 33 A1 k cp (stopRows (wayB (startX seed) (ks.take k))).flatten) (fun ⟨k, A1, cp⟩ => n - k) (0, none, 0) ?_ ?_ ?_
      · exact .cons rfl (.cons rfl (.cons rfl (.cons rfl (.cons rfl (.nil _)))))
      · exact ⟨Nat.zero_le _, L3_3, rfl, Own.nil _ _ _ _ _⟩
      · rintro ⟨k, A1, cp⟩ wl ⟨hk, Ll, hall, ol⟩
        refine WC.seq ?_
        refine WC.region ?_
        refine W.any (.lss rfl rfl) rfl rfl rfl ?_
        refine W.nil ?_
        refine E.thenN ?_
        refine WC.seq ?_
        refine WC.cond rfl (fun c1 => ?_) (fun c1 => ?_)
        · have hkey := getn ks (show k < ks.length by omega)
          have hkl : ks.getD k 0 < 18446744073709551616 := hks _ (List.mem_of_getElem? hkey)
          refine WC.skip ?_
          refine E.thenN ?_
          refine WC.seq ?_
          refine WC.block ?_
          refine WC.seq ?_
          refine WC.region ?_
          refine W.any (.idxS1 (k) Try.underlying60 sz31 rfl rfl (hK.isSome (j := k) (by omega) (by decide)) (rfl) (by omega)) rfl rfl rfl ?_
          refine W.rd (.loadS na31 rfl (hK.le Ll) (getp ks (by omega))) rfl rfl rfl ?_
          refine W.any (.assign rfl) rfl rfl rfl ?_
          refine W.nil ?_
          refine E.thenN ?_
          refine WC.seq ?_
          refine WC.seq ?_
          refine WC.region ?_
          refine W.any (.move rfl) rfl rfl rfl ?_
          by_cases hk1 : ks.getD k 0 = 1
          · refine W.any (.dec (.eql rfl rfl) (decide_eq_true (by omega))) rfl rfl rfl ?_
            refine W.any (.move rfl) rfl rfl rfl ?_
            refine W.skip rfl rfl rfl (rfl) rfl rfl ?_
            refine W.skip rfl rfl rfl (rfl) rfl rfl ?_
            refine W.skip rfl rfl rfl (rfl) rfl rfl ?_
            refine W.any (.pickT rfl rfl rfl) rfl rfl rfl ?_
            refine W.nil ?_
            refine E.thenN ?_
            refine WC.condT rfl ?_
            refine WC.seq ?_
            refine WC.region ?_
            refine W.any (.assign rfl) rfl rfl rfl ?_
            refine W.any (.assign rfl) rfl rfl rfl ?_
            refine W.nil ?_
            refine E.thenN ?_
            refine WC.ret ?_
            refine E.thenR ?_
            refine E.blkR ?_
            refine E.thenR ?_
            refine E.thenR ?_
            refine E.blkR ?_
            refine E.thenR ?_
            refine E.ret2 rfl rfl rfl ?_
            exact ⟨Ll, .inr ⟨key_bad ks k _ hkey (by rw [hk1]; rfl), rfl⟩⟩
          · refine W.any (.dec (.eql rfl rfl) (decide_eq_false (by omega))) rfl rfl rfl ?_
            refine W.any (.move rfl) rfl rfl rfl ?_
            refine W.rdg (Any.rd (.move rfl) _) rfl rfl rfl (rfl) rfl rfl ?_
            by_cases hrt : right (ks.getD k 0) = true
            · refine W.efg rfl rfl rfl (rfl) rfl rfl ?_
              refine Ef.call go90 rfl rfl (pright_T _ hkl hrt wl) ?_
              rintro _ w7_4 ⟨rfl, h7_4⟩
              refine ⟨_, rfl, ?_⟩
              have L7_4 := Ll.trans h7_4
              refine W.rdg (Any.rd (.not rfl) _) rfl rfl rfl (rfl) rfl rfl ?_
              refine W.any (.pickF rfl rfl rfl) rfl rfl rfl ?_
              refine W.nil ?_
              refine E.thenN ?_
              refine WC.condF rfl ?_
              refine WC.skip ?_
              refine E.thenN ?_
              refine WC.seq ?_
              refine WC.region ?_
              refine W.any (.move rfl) rfl rfl rfl ?_
              refine W.ef rfl rfl rfl ?_
              refine Ef.call go49 rfl rfl (base_ok _ w7_4) ?_
              rintro _ w9_1 ⟨rfl, h9_1⟩
              refine ⟨_, rfl, ?_⟩
              have L9_1 := L7_4.trans h9_1
              refine W.any (.move rfl) rfl rfl rfl ?_
              refine W.any (.move rfl) rfl rfl rfl ?_
              refine W.ef rfl rfl rfl ?_
              refine Ef.call go93 rfl rfl (scale_ok _ _ hkl w9_1) ?_
              rintro _ w9_4 ⟨rfl, h9_4⟩
              refine ⟨_, rfl, ?_⟩
              have L9_4 := L9_1.trans h9_4
              refine W.ef rfl rfl rfl ?_
              refine Ef.call go117 rfl rfl (stopped_ok _ _ w9_4) ?_
              rintro _ w9_5 ⟨rfl, h9_5⟩
              refine ⟨_, rfl, ?_⟩
              have L9_5 := L9_4.trans h9_5
              refine W.ef rfl rfl rfl ?_
              refine Ef.allocA z179 ?_
              intro g9_6 w9_6 hg9_6 b9_6 h9_6
              have L9_6 := L9_5.trans h9_6
              refine W.ef0 rfl rfl ?_
              refine Ef.storeAll sz179 (by simp [stopV, sharedB_length]) rfl rfl (b9_6) (by simp [stopV, sharedB_length]) (stopV_one _) ?_
              intro w9_7 b9_7 h9_7
              have L9_7 : Le w w9_7 := L9_6.then_ h9_7 (fun q hq => by cases hq; exact Nat.le_trans L9_5.size hg9_6)
              have ol2 := (ol.le (h7_4.trans (h9_1.trans (h9_4.trans (h9_5.trans h9_6))))).ch h9_7 (fun q hq => by cases hq; exact fun he => by have := (ol.row he).2; have := h7_4.size; have := h9_1.size; have := h9_4.size; have := h9_5.size; omega)
              have hrow : ∀ q, rowOf A1 cp = some q → q ≠ g9_6 := fun q hq he => by subst he; have := (ol.row hq).2; have := h7_4.size; have := h9_1.size; have := h9_4.size; have := h9_5.size; omega
              refine W.nil ?_
              refine E.thenN ?_
              refine WC.drawS (fun w10 w' => Ch w10 w' (rowOf A1 cp)) [0, 1, 4, 5, 2, 3, 6, 7, 8, 9] mixed (by kernel_rfl) ?_
              intro w10 d10
              refine ⟨Ch.refl _ _, ?_⟩
              have L10 := L9_7.trans d10
              have ol3 := ol2.le d10
              have b9 := b9_7.le d10
              refine GS.any rfl rfl (.move rfl) rfl rfl rfl ?_
              refine GS.rd rfl rfl (fun w' hs => .loadAll ag179 (by simp [stopV, sharedB_length]) rfl (b9.ch hs (fun he => hrow _ he rfl))) rfl rfl rfl ?_
              refine GS.any rfl rfl (.move rfl) rfl rfl rfl ?_
              refine GS.rd rfl rfl (fun w' hs => .loadAll ag179 (by simp [stopV, sharedB_length]) rfl (b9.ch hs (fun he => hrow _ he rfl))) rfl rfl rfl ?_
              refine GS.ef rfl rfl rfl rfl rfl ?_
              refine Ef.buildSliceA Try.underlying169 el179 (by decide) rfl (by simp [stopV, sharedB_length]) ?_
              intro g10_2 w10_2 hg10_2 b10_2 h10_2
              have L10_2 := L10.trans h10_2
              refine ⟨h10_2.ch _, ?_⟩
              refine GS.ef rfl rfl rfl rfl rfl ?_
              refine Ef.append Try.underlying169 el179 rfl (ol3.le h10_2) rfl (b10_2.srcA Try.underlying169 (by simp [stopV, sharedB_length]) (by decide) (stopV_one _)) (by omega) (by unfold maxLen; omega) (L10_2.size) ?_
              intro A10_3 c10_3 w10_3 o10_3 h10_3 at10_3
              have L10_3 : Le w w10_3 := L10_2.then_ h10_3 (fun q hq => (ol.row hq).1)
              refine ⟨(h10_2.ch _).trans h10_3, ?_⟩
              have oo := o10_3
              refine GS.ef rfl rfl rfl rfl rfl ?_
              refine Ef.call go119 rfl rfl (blind_ok _ (sharedB_length _) w10_3) ?_
              rintro _ w10_6 ⟨rfl, h10_6⟩
              refine ⟨_, rfl, ?_⟩
              have L10_6 := L10_3.trans h10_6
              refine ⟨((h10_2.ch _).trans h10_3).trans (h10_6.ch _), ?_⟩
              refine GS.ef rfl rfl rfl rfl rfl ?_
              refine Ef.call go143 rfl rfl (fmul_ok _ _ w10_6) ?_
              rintro _ w10_7 ⟨rfl, h10_7⟩
              refine ⟨_, rfl, ?_⟩
              have L10_7 := L10_6.trans h10_7
              refine ⟨(((h10_2.ch _).trans h10_3).trans (h10_6.ch _)).trans (h10_7.ch _), ?_⟩
              refine GS.any rfl rfl (.assign rfl) rfl rfl rfl ?_
              refine GS.any rfl rfl (.assign rfl) rfl rfl rfl ?_
              refine GS.nil ?_
              refine E.blkN ?_
              refine E.thenN ?_
              refine WC.region ?_
              refine W.any (.add rfl rfl (by omega)) rfl rfl rfl ?_
              refine W.any (.move rfl) rfl rfl rfl ?_
              refine W.nil ?_
              refine E.again (k + 1, A10_3, c10_3) (.cons rfl (.cons' rfl (int_eq (congrArg Nat.cast (by rw [xAt_snoc _ ks k _ hkey]; rfl))) (.cons rfl (.cons rfl (.cons rfl (.nil _)))))) ?_ ?_
              · exact ⟨by omega, L10_7, by rw [keys_all ks k _ hkey hall]; exact keyOk_yes hk1 hrt, (oo.le (h10_6.trans h10_7)).cast rfl (by rw [wayB_snoc _ ks k _ hkey]; simp [stopRows, stopB])⟩
              · first | omega | (simp only []; omega)
            · refine W.efg rfl rfl rfl (rfl) rfl rfl ?_
              refine Ef.call go90 rfl rfl (pright_F _ hkl (by simpa using hrt) wl) ?_
              rintro _ w7_4 ⟨rfl, h7_4⟩
              refine ⟨_, rfl, ?_⟩
              have L7_4 := Ll.trans h7_4
              refine W.rdg (Any.rd (.not rfl) _) rfl rfl rfl (rfl) rfl rfl ?_
              refine W.any (.pickF rfl rfl rfl) rfl rfl rfl ?_
              refine W.nil ?_
              refine E.thenN ?_
              refine WC.condT rfl ?_
              refine WC.seq ?_
              refine WC.region ?_
              refine W.any (.assign rfl) rfl rfl rfl ?_
              refine W.any (.assign rfl) rfl rfl rfl ?_
              refine W.nil ?_
              refine E.thenN ?_
              refine WC.ret ?_
              refine E.thenR ?_
              refine E.blkR ?_
              refine E.thenR ?_
              refine E.thenR ?_
              refine E.blkR ?_
              refine E.thenR ?_
              refine E.ret2 rfl rfl rfl ?_
              exact ⟨L7_4, .inr ⟨key_bad ks k _ hkey (keyOk_no (by simpa using hrt)), rfl⟩⟩
        · have hkn : n = k := by omega
          subst hkn
          rw [List.take_of_length_le (by omega)] at hall ol
          refine WC.exit ?_
          refine E.thenX ?_
          refine E.thenX ?_
          refine E.blkH ?_
          refine E.thenN ?_
          refine WC.seq ?_
          refine WC.region ?_
          refine W.any (.move rfl) rfl rfl rfl ?_
          refine W.any (.assign rfl) rfl rfl rfl ?_
          refine W.any (.assign rfl) rfl rfl rfl ?_
          refine W.nil ?_
          refine E.thenN ?_
          refine WC.ret ?_
          refine E.ret2 rfl rfl rfl ?_
          exact ⟨Ll, .inl ⟨by rw [keysOk, hall]; simp; omega, A1, cp, rfl, ol⟩⟩
end Go.Proofs.Ytfgakofjkldcjaa

namespace Go.Proofs.Ytfgakofjkldcjaa
open Go Go.Sx Go.Hsp Go.Num Go.Osp
set_option maxRecDepth 20000
theorem stopRows_at (l : List Stop) (k : Nat) (s : Stop) (h : l[k]? = some s) : (stopRows l)[k]? = some (stopV s) := by simp [stopRows, h]
theorem way_T (seed : List Byte) (hse : seed.length = 32) {A : Option Addr} {n c : Nat} {ks : List Nat} (w : World) (hK : Sl w 1 A n (ks.map pv)) (hks : ∀ k ∈ ks, k < 18446744073709551616) (hn : n ≤ 1000000) (hk : keysOk ks = true) : Calls Try.prog 104 #[.slice A n c, .agg (seed.map u8v).toArray] w fun e w' => ∃ A' c', e = .returned (.tuple #[.slice A' n c', .bool true]) ∧ Own w' w.heap.size 179 33 A' n c' (stopRows (wayB (startX seed) ks)).flatten ∧ Le w w' :=
  (way_ok seed hse w hK hks hn).mono fun e w' ⟨hl, h⟩ => by
    rcases h with ⟨_, A', c', rfl, ho⟩ | ⟨h, _⟩
    · exact ⟨A', c', rfl, ho, hl⟩
    · rw [hk] at h; cases h
theorem way_F (seed : List Byte) (hse : seed.length = 32) {A : Option Addr} {n c : Nat} {ks : List Nat} (w : World) (hK : Sl w 1 A n (ks.map pv)) (hks : ∀ k ∈ ks, k < 18446744073709551616) (hn : n ≤ 1000000) (hk : keysOk ks = false) : Calls Try.prog 104 #[.slice A n c, .agg (seed.map u8v).toArray] w fun e w' => e = .returned (.tuple #[.slice none 0 0, .bool false]) ∧ Le w w' :=
  (way_ok seed hse w hK hks hn).mono fun e w' ⟨hl, h⟩ => by
    rcases h with ⟨h, _⟩ | ⟨_, rfl⟩
    · rw [hk] at h; cases h
    · exact ⟨rfl, hl⟩





set_option maxHeartbeats 1000000 in
theorem filler_ok {A : Option Addr} {n c : Nat} {l : List Stop} (w : World) (hR : Rws w 33 A n (stopRows l)) (hsum : ∀ s ∈ l, s.2.length = 32) (h1 : 1 ≤ n) (h8 : n ≤ 8) (hc : n ≤ c) : Calls Try.prog 113 #[.slice A n c] w fun e w' => ∃ A' c', e = .returned (.slice A' (80 * (n - 1)) c') ∧ Own w' w.heap.size 5 1 A' (80 * (n - 1)) c' ((filler l).map u8v) ∧ Le w w' := by
  have hll : l.length = n := by have := hR.1; simpa [stopRows] using this
  refine enter Try.func113 rfl rfl ?_
  have L0 := Le.refl w
  refine WC.seq ?_
  refine WC.region ?_
  refine W.any (.assign rfl) rfl rfl rfl ?_
  refine W.nil ?_
  refine E.thenN ?_
  refine WC.seq ?_
  refine WC.seq ?_
  refine WC.region ?_
  refine W.any (.move rfl) rfl rfl rfl ?_
  refine W.any (.move rfl) rfl rfl rfl ?_
  refine W.rd (.len Try.underlying169 rfl) rfl rfl rfl ?_
  refine W.any (.sub rfl rfl (by omega)) rfl rfl rfl ?_
  refine W.any (.cutH (n - 1) Try.underlying169 sz179 rfl rfl (by omega) (by omega)) rfl rfl rfl ?_
  refine W.rd (.len Try.underlying169 rfl) rfl rfl rfl ?_
  refine W.any (.move rfl) rfl rfl rfl ?_
  refine W.nil ?_
  refine E.thenN ?_
  refine WC.block ?_
  refine WC.loop (ι := Nat × Option Addr × Nat) (fun ⟨k, A1, cp⟩ => [(2, .slice A1 (80 * k) cp), (9, .slice A (n - 1) c), (10, .int .i64 ((n - 1 : Nat) : Int)), (11, .int .i64 (k : Int))]) (fun ⟨k, A1, cp⟩ wl => k ≤ n - 1 ∧ Le w wl ∧ Own wl w.heap.size 5 1 A1 (80 * k) cp ((fillTo [] (l.take k)).map u8v)) (fun ⟨k, A1, cp⟩ => n - 1 - k) (0, none, 0) ?_ ?_ ?_
  · exact .cons rfl (.cons rfl (.cons rfl (.cons rfl (.nil _))))
  · exact ⟨Nat.zero_le _, L0, Own.nil _ _ _ _ _⟩
  · rintro ⟨k, A1, cp⟩ wl ⟨hkn, Ll, ol⟩
    have hfl : (fillTo [] (l.take k)).length = 80 * k := by rw [fillTo_length _ _ (by simp [List.length_take]; omega)]; simp [List.length_take]; omega
    refine WC.seq ?_
    refine WC.region ?_
    refine W.any (.lss rfl rfl) rfl rfl rfl ?_
    refine W.nil ?_
    refine E.thenN ?_
    refine WC.seq ?_
    refine WC.cond rfl (fun c0 => ?_) (fun c0 => ?_)
    · obtain ⟨s, hs⟩ : ∃ s, l[k]? = some s := ⟨_, List.getElem?_eq_getElem (by omega)⟩
      have hs32 := hsum s (List.mem_of_getElem? hs)
      refine WC.skip ?_
      refine E.thenN ?_
      refine WC.seq ?_
      refine WC.block ?_
      refine WC.seq ?_
      refine WC.region ?_
      refine W.any (.idxS (k) Try.underlying169 sz179 rfl rfl (hR.isSome (by omega) (by decide)) (rfl) (by omega)) rfl rfl rfl ?_
      refine W.rd (.loadR ag179 rfl (hR.le Ll) (stopRows_at l k s hs) (by decide)) rfl rfl rfl ?_
      refine W.ef rfl rfl rfl ?_
      refine Ef.allocA z179 ?_
      intro g3_2 w3_2 hg3_2 b3_2 h3_2
      have L3_2 := Ll.trans h3_2
      refine W.ef0 rfl rfl ?_
      refine Ef.storeAll sz179 (by simp [stopV, hs32]) rfl rfl (b3_2) (by simp [stopV, hs32]) (stopV_one _) ?_
      intro w3_3 b3_3 h3_3
      have L3_3 : Le w w3_3 := L3_2.then_ h3_3 (fun q hq => by cases hq; exact Nat.le_trans Ll.size hg3_2)
      have ol2 := (ol.le h3_2).ch h3_3 (fun q hq => by cases hq; exact fun he => by have := (ol.row he).2; omega)
      refine W.nil ?_
      refine E.thenN ?_
      refine WC.seq ?_
      refine WC.region ?_
      refine W.any (.move rfl) rfl rfl rfl ?_
      refine W.ef rfl rfl rfl ?_
      refine Ef.appendZ 80 Try.underlying107 Try.underlying3 el5 rfl rfl ol2 rfl rfl (by decide) (by omega) (by unfold maxLen; omega) L3_3.size ?_
      intro A4 c4 w4_1 o4 h4_1 at4
      have L4_1 : Le w w4_1 := L3_3.then_ h4_1 (fun q hq => (ol.row hq).1)
      have b4 := b3_3.ch h4_1 (fun he => by have := (ol.row he).2; omega)
      have o4 : Own w4_1 w.heap.size 5 1 A4 (80 * k + 80) c4 ((fillTo [] (l.take k) ++ List.replicate 80 0#8).map u8v) := o4.cast rfl (by simp [u8v])
      refine W.any (.assign rfl) rfl rfl rfl ?_
      refine W.nil ?_
      refine E.thenN ?_
      refine WC.region ?_
      refine W.any (.move rfl) rfl rfl rfl ?_
      refine W.rd (.loadAll ag179 (by simp [stopV, hs32]) rfl (b4)) rfl rfl rfl ?_
      refine W.ef rfl rfl rfl ?_
      refine Ef.call go112 rfl rfl (rho_ok s hs32 720 (by decide) w4_1) ?_
      rintro _ w5_2 ⟨A5, c5, rfl, o5, h5_2⟩
      refine ⟨_, rfl, ?_⟩
      have L5_2 := L4_1.trans h5_2
      have o4 := o4.le h5_2
      refine W.any (.move rfl) rfl rfl rfl ?_
      refine W.rd (.len Try.underlying107 rfl) rfl rfl rfl ?_
      refine W.any (.sub rfl rfl (by omega)) rfl rfl rfl ?_
      refine W.any (.cutL (720 - (80 * k + 80)) Try.underlying107 sz5 rfl rfl (by omega) (by omega) (o5.cap.1)) rfl rfl rfl ?_
      have hx : ∀ w, Sb w (cutA A5 c5 (720 - (80 * k + 80)) 1) (80 * k + 80) ((rho s 720).drop (720 - (80 * k + 80))) → Sb w A4 (80 * k + 80) (fillTo [] (l.take k) ++ List.replicate 80 0#8) → Calls Try.prog 109 #[.slice A4 (80 * k + 80) c4, .slice (cutA A5 c5 (720 - (80 * k + 80)) 1) (720 - (720 - (80 * k + 80))) (c5 - (720 - (80 * k + 80)))] w fun e w' => ∃ A' c', e = .returned (.slice A' (80 * k + 80) c') ∧ Own w' w.heap.size 5 1 A' (80 * k + 80) c' ((xorB (fillTo [] (l.take k) ++ List.replicate 80 0#8) ((rho s 720).drop (720 - (80 * k + 80)))).map u8v) ∧ Le w w' := fun w h1 h2 => by
        rw [show 720 - (720 - (80 * k + 80)) = 80 * k + 80 by omega]
        exact xor_ok w h2 h1 (by omega)
      refine W.ef rfl rfl rfl ?_
      refine Ef.call go109 rfl rfl (hx w5_2 (by have h := o5.sb.cutL c5 (720 - (80 * k + 80)) (by omega) o5.cap.1; rwa [show 720 - (720 - (80 * k + 80)) = 80 * k + 80 by omega] at h) o4.sb) ?_
      rintro _ w5_7 ⟨A7, c7, rfl, o7, h5_7⟩
      refine ⟨_, rfl, ?_⟩
      have L5_7 := L5_2.trans h5_7
      refine W.any (.assign rfl) rfl rfl rfl ?_
      refine W.nil ?_
      refine E.blkN ?_
      refine E.thenN ?_
      refine WC.region ?_
      refine W.any (.add rfl rfl (by omega)) rfl rfl rfl ?_
      refine W.any (.move rfl) rfl rfl rfl ?_
      refine W.nil ?_
      refine E.again (k + 1, A7, c7) (.cons' rfl (slice_eq (by omega)) (.cons rfl (.cons rfl (.cons rfl (.nil _))))) ?_ ?_
      · exact ⟨by omega, L5_7, (o7.mono L5_2.size).cast (by omega) (by rw [fillTo_snoc l k s hs, fillS, hfl, zeros]; rfl)⟩
      · first | omega | (simp only []; omega)
    · have hkn : k = n - 1 := by omega
      subst hkn
      refine WC.exit ?_
      refine E.thenX ?_
      refine E.thenX ?_
      refine E.blkH ?_
      refine E.thenN ?_
      refine WC.seq ?_
      refine WC.region ?_
      refine W.any (.move rfl) rfl rfl rfl ?_
      refine W.any (.assign rfl) rfl rfl rfl ?_
      refine W.nil ?_
      refine E.thenN ?_
      refine WC.ret ?_
      refine E.ret1 rfl rfl ?_
      exact ⟨A1, cp, rfl, ol.cast rfl (by rw [filler, hll]), Ll⟩

theorem may_T (h : Hop) (ho : HopOk h) (hy : mayB h = true) (w : World) : Calls Try.prog 105 #[.agg (hopV h).toArray] w fun e w' => e = .returned (.bool true) ∧ Le w w' := by
  have := may_ok h ho w
  rwa [hy] at this

theorem may_F (h : Hop) (ho : HopOk h) (hy : mayB h = false) (w : World) : Calls Try.prog 105 #[.agg (hopV h).toArray] w fun e w' => e = .returned (.bool false) ∧ Le w w' := by
  have := may_ok h ho w
  rwa [hy] at this

set_option maxHeartbeats 2000000 in
theorem peel_ok (kk : Nat) (_hkk : kk < 18446744073709551616) {A : Option Addr} {n c : Nat} {xs : List Byte} (w : World) (hS : Sb w A n xs) (hc : n ≤ c) : Calls Try.prog 57 #[.int .u64 ((kk : Nat) : Int), .slice A n c] w fun e w' => ∃ A' m c', e = .returned (.tuple #[.agg (hopV (peelB kk xs).1).toArray, .slice A' m c', .agg ((peelB kk xs).2.2.1.map u8v).toArray, .int .i64 (peelB kk xs).2.2.2]) ∧ Own w' w.heap.size 5 1 A' m c' ((peelB kk xs).2.1.map u8v) ∧ Le w w' := by
  have hl := hS.len
  refine enter Try.func57 rfl rfl ?_
  have L0 := Le.refl w
  refine WC.seq ?_
  refine WC.region ?_
  refine W.ef rfl rfl rfl ?_
  refine Ef.allocA z95 ?_
  intro g0_0 w0_0 hg0_0 b0_0 h0_0
  have L0_0 := L0.trans h0_0
  have bh : Blk w0_0 g0_0 95 (hopV noHop).toArray := b0_0
  refine W.any (.assign rfl) rfl rfl rfl ?_
  refine W.ef rfl rfl rfl ?_
  refine Ef.allocA z89 ?_
  intro g0_2 w0_2 hg0_2 b0_2 h0_2
  have L0_2 := L0_0.trans h0_2
  have bh := bh.le h0_2
  have bs : Blk w0_2 g0_2 89 ((zeros 32).map u8v).toArray := b0_2
  have LL := Le.refl w0_2
  have hL0 := h0_0.trans h0_2
  have hS := hS.le hL0
  have hne : g0_0 ≠ g0_2 := by have := b0_0.lt; omega
  refine W.any (.assign rfl) rfl rfl rfl ?_
  refine W.nil ?_
  refine E.thenN ?_
  refine WC.seq ?_
  refine WC.seq ?_
  refine WC.region ?_
  refine W.any (.move rfl) rfl rfl rfl ?_
  by_cases h0 : kk = 0
  · refine W.any (.dec (.eql rfl rfl) (decide_eq_true (by omega))) rfl rfl rfl ?_
    refine W.any (.move rfl) rfl rfl rfl ?_
    refine W.skip rfl rfl rfl (rfl) rfl rfl ?_
    refine W.skip rfl rfl rfl (rfl) rfl rfl ?_
    refine W.skip rfl rfl rfl (rfl) rfl rfl ?_
    refine W.any (.pickT rfl rfl rfl) rfl rfl rfl ?_
    refine W.nil ?_
    refine E.thenN ?_
    refine WC.condT rfl ?_
    refine WC.seq ?_
    refine WC.drawS (fun w2 w' => Blk w' g0_0 95 (hopV noHop).toArray ∧ Blk w' g0_2 89 ((zeros 32).map u8v).toArray) [0, 1, 2, 3, 4, 5] mixed (by kernel_rfl) ?_
    intro w2 d2
    refine ⟨⟨(bh.le LL).le d2, (bs.le LL).le d2⟩, ?_⟩
    have L2 := LL.trans d2
    refine GS.rd rfl rfl (fun w' hs => .loadAll ag95 (by rfl) rfl hs.1) rfl rfl rfl ?_
    refine GS.rd rfl rfl (fun w' hs => .loadAll ag89 (by rfl) rfl hs.2) rfl rfl rfl ?_
    refine GS.ef0 rfl rfl rfl rfl ?_
    refine Ef.storeAll sz95 (by rfl) rfl rfl ((bh.le LL).le d2) (by rfl) (hopV_one _) ?_
    intro w2_2 b2_2 h2_2
    have L2_2 : Le w w2_2 := (hL0.trans L2).then_ h2_2 (fun q hq => by cases hq; exact hg0_0)
    have q2 := ((bs.le LL).le d2).ch h2_2 (by simp [hne])
    refine ⟨⟨b2_2, q2⟩, ?_⟩
    refine GS.any rfl rfl (.assign rfl) rfl rfl rfl ?_
    refine GS.ef0 rfl rfl rfl rfl ?_
    refine Ef.storeAll sz89 (by rfl) rfl rfl (q2) (by rfl) (all_u8v _) ?_
    intro w2_4 b2_4 h2_4
    have L2_4 : Le w w2_4 := L2_2.then_ h2_4 (fun q hq => by cases hq; exact Nat.le_trans h0_0.size hg0_2)
    have p2 := b2_2.ch h2_4 (by simp; exact fun h => hne h.symm)
    refine ⟨⟨p2, b2_4⟩, ?_⟩
    refine GS.any rfl rfl (.assign rfl) rfl rfl rfl ?_
    refine GS.nil ?_
    refine E.thenN ?_
    refine WC.ret ?_
    refine E.thenR ?_
    refine E.retCTCT rfl rfl rfl rfl rfl p2 ag95 (by rfl) b2_4 ag89 (by rfl) ?_
    rw [peelB, if_pos (.inl h0)]; exact ⟨none, 0, 0, rfl, Own.nil _ _ _ _ _, L2_4⟩
  · refine W.any (.dec (.eql rfl rfl) (decide_eq_false (by omega))) rfl rfl rfl ?_
    refine W.any (.move rfl) rfl rfl rfl ?_
    refine W.rdg (Any.rd (.move rfl) _) rfl rfl rfl (rfl) rfl rfl ?_
    by_cases hq : kk < q
    · refine W.efg rfl rfl rfl (rfl) rfl rfl ?_
      refine Ef.call go60 rfl rfl (fright_T kk hq w0_2) ?_
      rintro _ w1_4 ⟨rfl, h1_4⟩
      refine ⟨_, rfl, ?_⟩
      have L1_4 := LL.trans h1_4
      refine W.rdg (Any.rd (.not rfl) _) rfl rfl rfl (rfl) rfl rfl ?_
      refine W.any (.pickF rfl rfl rfl) rfl rfl rfl ?_
      refine W.nil ?_
      refine E.thenN ?_
      refine WC.condF rfl ?_
      refine WC.skip ?_
      refine E.thenN ?_
      refine WC.seq ?_
      refine WC.seq ?_
      refine WC.region ?_
      refine W.any (.move rfl) rfl rfl rfl ?_
      refine W.rd (.len Try.underlying107 rfl) rfl rfl rfl ?_
      refine W.any (.neq rfl rfl) rfl rfl rfl ?_
      refine W.nil ?_
      refine E.thenN ?_
      refine WC.cond rfl (fun h680 => ?_) (fun h680 => ?_)
      · refine WC.seq ?_
        refine WC.drawS (fun w4 w' => Blk w' g0_0 95 (hopV noHop).toArray ∧ Blk w' g0_2 89 ((zeros 32).map u8v).toArray) [0, 1, 2, 3, 4, 5] mixed (by kernel_rfl) ?_
        intro w4 d4
        refine ⟨⟨(bh.le L1_4).le d4, (bs.le L1_4).le d4⟩, ?_⟩
        have L4 := L1_4.trans d4
        refine GS.rd rfl rfl (fun w' hs => .loadAll ag95 (by rfl) rfl hs.1) rfl rfl rfl ?_
        refine GS.rd rfl rfl (fun w' hs => .loadAll ag89 (by rfl) rfl hs.2) rfl rfl rfl ?_
        refine GS.ef0 rfl rfl rfl rfl ?_
        refine Ef.storeAll sz95 (by rfl) rfl rfl ((bh.le L1_4).le d4) (by rfl) (hopV_one _) ?_
        intro w4_2 b4_2 h4_2
        have L4_2 : Le w w4_2 := (hL0.trans L4).then_ h4_2 (fun q hq => by cases hq; exact hg0_0)
        have q4 := ((bs.le L1_4).le d4).ch h4_2 (by simp [hne])
        refine ⟨⟨b4_2, q4⟩, ?_⟩
        refine GS.any rfl rfl (.assign rfl) rfl rfl rfl ?_
        refine GS.ef0 rfl rfl rfl rfl ?_
        refine Ef.storeAll sz89 (by rfl) rfl rfl (q4) (by rfl) (all_u8v _) ?_
        intro w4_4 b4_4 h4_4
        have L4_4 : Le w w4_4 := L4_2.then_ h4_4 (fun q hq => by cases hq; exact Nat.le_trans h0_0.size hg0_2)
        have p4 := b4_2.ch h4_4 (by simp; exact fun h => hne h.symm)
        refine ⟨⟨p4, b4_4⟩, ?_⟩
        refine GS.any rfl rfl (.assign rfl) rfl rfl rfl ?_
        refine GS.nil ?_
        refine E.thenN ?_
        refine WC.ret ?_
        refine E.thenR ?_
        refine E.retCTCT rfl rfl rfl rfl rfl p4 ag95 (by rfl) b4_4 ag89 (by rfl) ?_
        rw [peelB, if_neg (by omega), if_pos (by rw [hl]; omega)]; exact ⟨none, 0, 0, rfl, Own.nil _ _ _ _ _, L4_4⟩
      · have hn : n = 680 := by omega
        subst hn
        refine WC.skip ?_
        refine E.thenN ?_
        refine WC.seq ?_
        refine WC.draw [0, 2, 3, 4, 5, 1, 6, 7, 8] mixed (by kernel_rfl) ?_
        intro w5 d5
        have L5 := L1_4.trans d5
        refine G.any rfl rfl (.move rfl) rfl rfl rfl ?_
        refine G.any rfl rfl (.move rfl) rfl rfl rfl ?_
        refine G.any rfl rfl (.cut (8) (648) Try.underlying107 sz5 rfl rfl (rfl) rfl (rfl) (by decide) (by omega)) rfl rfl rfl ?_
        refine G.any rfl rfl (.move rfl) rfl rfl rfl ?_
        refine G.any rfl rfl (.cutL (648) Try.underlying107 sz5 rfl rfl (rfl) (by decide) (hc)) rfl rfl rfl ?_
        refine G.ef rfl rfl rfl rfl rfl ?_
        refine Ef.call go116 rfl rfl (number_ok w5 (hS.le L5) (by decide) hc) ?_
        rintro _ w5_1 ⟨rfl, h5_1⟩
        refine ⟨_, rfl, ?_⟩
        have L5_1 := L5.trans h5_1
        refine ⟨fun _ => h5_1, ?_⟩
        refine G.any rfl rfl (.assign rfl) rfl rfl rfl ?_
        refine G.any rfl rfl (.assign rfl) rfl rfl rfl ?_
        refine G.any rfl rfl (.assign rfl) rfl rfl rfl ?_
        refine G.nil ?_
        refine E.thenN ?_
        refine WC.seq ?_
        refine WC.seq ?_
        refine WC.region ?_
        refine W.any (.move rfl) rfl rfl rfl ?_
        by_cases h1 : numB xs = 1
        · refine W.any (.dec (.eql rfl rfl) (decide_eq_true (by omega))) rfl rfl rfl ?_
          refine W.any (.move rfl) rfl rfl rfl ?_
          refine W.skip rfl rfl rfl (rfl) rfl rfl ?_
          refine W.skip rfl rfl rfl (rfl) rfl rfl ?_
          refine W.skip rfl rfl rfl (rfl) rfl rfl ?_
          refine W.any (.pickT rfl rfl rfl) rfl rfl rfl ?_
          refine W.nil ?_
          refine E.thenN ?_
          refine WC.condT rfl ?_
          refine WC.seq ?_
          refine WC.drawS (fun w7 w' => Blk w' g0_0 95 (hopV noHop).toArray ∧ Blk w' g0_2 89 ((zeros 32).map u8v).toArray) [0, 1, 2, 3, 4, 5] mixed (by kernel_rfl) ?_
          intro w7 d7
          refine ⟨⟨(bh.le L5_1).le d7, (bs.le L5_1).le d7⟩, ?_⟩
          have L7 := L5_1.trans d7
          refine GS.rd rfl rfl (fun w' hs => .loadAll ag95 (by rfl) rfl hs.1) rfl rfl rfl ?_
          refine GS.rd rfl rfl (fun w' hs => .loadAll ag89 (by rfl) rfl hs.2) rfl rfl rfl ?_
          refine GS.ef0 rfl rfl rfl rfl ?_
          refine Ef.storeAll sz95 (by rfl) rfl rfl ((bh.le L5_1).le d7) (by rfl) (hopV_one _) ?_
          intro w7_2 b7_2 h7_2
          have L7_2 : Le w w7_2 := (hL0.trans L7).then_ h7_2 (fun q hq => by cases hq; exact hg0_0)
          have q7 := ((bs.le L5_1).le d7).ch h7_2 (by simp [hne])
          refine ⟨⟨b7_2, q7⟩, ?_⟩
          refine GS.any rfl rfl (.assign rfl) rfl rfl rfl ?_
          refine GS.ef0 rfl rfl rfl rfl ?_
          refine Ef.storeAll sz89 (by rfl) rfl rfl (q7) (by rfl) (all_u8v _) ?_
          intro w7_4 b7_4 h7_4
          have L7_4 : Le w w7_4 := L7_2.then_ h7_4 (fun q hq => by cases hq; exact Nat.le_trans h0_0.size hg0_2)
          have p7 := b7_2.ch h7_4 (by simp; exact fun h => hne h.symm)
          refine ⟨⟨p7, b7_4⟩, ?_⟩
          refine GS.any rfl rfl (.assign rfl) rfl rfl rfl ?_
          refine GS.nil ?_
          refine E.thenN ?_
          refine WC.ret ?_
          refine E.thenR ?_
          refine E.retCTCT rfl rfl rfl rfl rfl p7 ag95 (by rfl) b7_4 ag89 (by rfl) ?_
          rw [peelB, if_neg (by omega), if_neg (by rw [hl]; decide), if_pos (by rw [h1]; rfl)]; exact ⟨none, 0, 0, rfl, Own.nil _ _ _ _ _, L7_4⟩
        · refine W.any (.dec (.eql rfl rfl) (decide_eq_false (by omega))) rfl rfl rfl ?_
          refine W.any (.move rfl) rfl rfl rfl ?_
          refine W.rdg (Any.rd (.move rfl) _) rfl rfl rfl (rfl) rfl rfl ?_
          by_cases hr : right (numB xs) = true
          · refine W.efg rfl rfl rfl (rfl) rfl rfl ?_
            refine Ef.call go90 rfl rfl (pright_T _ (numB_lt xs) hr w5_1) ?_
            rintro _ w6_4 ⟨rfl, h6_4⟩
            refine ⟨_, rfl, ?_⟩
            have L6_4 := L5_1.trans h6_4
            refine W.rdg (Any.rd (.not rfl) _) rfl rfl rfl (rfl) rfl rfl ?_
            refine W.any (.pickF rfl rfl rfl) rfl rfl rfl ?_
            refine W.nil ?_
            refine E.thenN ?_
            refine WC.condF rfl ?_
            refine WC.skip ?_
            refine E.thenN ?_
            refine WC.seq ?_
            refine WC.region ?_
            refine W.any (.move rfl) rfl rfl rfl ?_
            refine W.any (.move rfl) rfl rfl rfl ?_
            refine W.any (.move rfl) rfl rfl rfl ?_
            refine W.ef rfl rfl rfl ?_
            refine Ef.call go93 rfl rfl (scale_ok _ kk (numB_lt xs) w6_4) ?_
            rintro _ w8_3 ⟨rfl, h8_3⟩
            refine ⟨_, rfl, ?_⟩
            have L8_3 := L6_4.trans h8_3
            refine W.ef rfl rfl rfl ?_
            refine Ef.call go117 rfl rfl (stopped_ok _ _ w8_3) ?_
            rintro _ w8_4 ⟨rfl, h8_4⟩
            refine ⟨_, rfl, ?_⟩
            have L8_4 := L8_3.trans h8_4
            refine W.ef rfl rfl rfl ?_
            refine Ef.allocA z179 ?_
            intro g8_5 w8_5 hg8_5 b8_5 h8_5
            have L8_5 := L8_4.trans h8_5
            refine W.ef0 rfl rfl ?_
            refine Ef.storeAll sz179 (by simp [stopV, sharedB_length]) rfl rfl (b8_5) (by simp [stopV, sharedB_length]) (stopV_one _) ?_
            intro w8_6 b8_6 h8_6
            have L8_6 : Le w0_2 w8_6 := L8_5.then_ h8_6 (fun q hq => by cases hq; exact Nat.le_trans L8_4.size hg8_5)
            obtain ⟨st, hst⟩ : ∃ st : Stop, st = (numB xs, sharedB (scale (numB xs) kk)) := ⟨_, rfl⟩
            have hst32 : st.2.length = 32 := by rw [hst]; exact sharedB_length _
            rw [← hst] at b8_6
            refine W.nil ?_
            refine E.thenN ?_
            refine WC.seq ?_
            refine WC.seq ?_
            refine WC.draw [0, 1, 3, 4, 5, 2, 6] mixed (by kernel_rfl) ?_
            intro w9 d9
            have L9 := L8_6.trans d9
            have bt := b8_6.le d9
            refine G.rd rfl rfl (.loadAll ag179 (by simp [stopV, hst32]) rfl (bt)) rfl rfl rfl ?_
            refine G.any rfl rfl (.move rfl) rfl rfl rfl ?_
            refine G.any rfl rfl (.move rfl) rfl rfl rfl ?_
            refine G.any rfl rfl (.arrPtr Try.underlying89 rfl (by decide)) rfl rfl rfl ?_
            refine G.rd rfl rfl (.loadSb ag89 rfl ((hS.le L9).cutL c 648 (by decide) hc) (by decide) (by decide)) rfl rfl rfl ?_
            refine G.ef rfl rfl rfl rfl rfl ?_
            refine Ef.call go114 rfl rfl (mac_ok st hst32 w9 ((hS.le L9).cut c 8 648 (by decide) (by decide) hc) (by decide)) ?_
            rintro _ w9_2 ⟨rfl, h9_2⟩
            refine ⟨_, rfl, ?_⟩
            have L9_2 := L9.trans h9_2
            refine ⟨fun _ => h9_2, ?_⟩
            refine G.any rfl rfl (.neA eg89 rfl rfl (Eqv.bytes (d := 9998) _ _ Try.underlying89 sz5 Try.underlying5 (macB_length _ _) (by rw [List.length_take, List.length_drop, hS.len]; decide))) rfl rfl rfl ?_
            refine G.nil ?_
            refine E.thenN ?_
            refine WC.condB rfl (fun hm => ?_) (fun hm => ?_)
            · have hmac : macB st ((xs.drop 8).take 640) ≠ xs.drop 648 := by rw [show (xs.drop 648).take 32 = xs.drop 648 from List.take_of_length_le (by rw [List.length_drop, hl]; decide)] at hm; simpa using hm
              refine WC.seq ?_
              refine WC.drawS (fun w10 w' => Blk w' g0_0 95 (hopV noHop).toArray ∧ Blk w' g0_2 89 ((zeros 32).map u8v).toArray) [0, 1, 2, 3, 4, 5] mixed (by kernel_rfl) ?_
              intro w10 d10
              refine ⟨⟨(bh.le L9_2).le d10, (bs.le L9_2).le d10⟩, ?_⟩
              have L10 := L9_2.trans d10
              refine GS.rd rfl rfl (fun w' hs => .loadAll ag95 (by rfl) rfl hs.1) rfl rfl rfl ?_
              refine GS.rd rfl rfl (fun w' hs => .loadAll ag89 (by rfl) rfl hs.2) rfl rfl rfl ?_
              refine GS.ef0 rfl rfl rfl rfl ?_
              refine Ef.storeAll sz95 (by rfl) rfl rfl ((bh.le L9_2).le d10) (by rfl) (hopV_one _) ?_
              intro w10_2 b10_2 h10_2
              have L10_2 : Le w w10_2 := (hL0.trans L10).then_ h10_2 (fun q hq => by cases hq; exact hg0_0)
              have q10 := ((bs.le L9_2).le d10).ch h10_2 (by simp [hne])
              refine ⟨⟨b10_2, q10⟩, ?_⟩
              refine GS.any rfl rfl (.assign rfl) rfl rfl rfl ?_
              refine GS.ef0 rfl rfl rfl rfl ?_
              refine Ef.storeAll sz89 (by rfl) rfl rfl (q10) (by rfl) (all_u8v _) ?_
              intro w10_4 b10_4 h10_4
              have L10_4 : Le w w10_4 := L10_2.then_ h10_4 (fun q hq => by cases hq; exact Nat.le_trans h0_0.size hg0_2)
              have p10 := b10_2.ch h10_4 (by simp; exact fun h => hne h.symm)
              refine ⟨⟨p10, b10_4⟩, ?_⟩
              refine GS.any rfl rfl (.assign rfl) rfl rfl rfl ?_
              refine GS.nil ?_
              refine E.thenN ?_
              refine WC.ret ?_
              refine E.thenR ?_
              refine E.retCTCT rfl rfl rfl rfl rfl p10 ag95 (by rfl) b10_4 ag89 (by rfl) ?_
              rw [peelB, if_neg (by omega), if_neg (by rw [hl]; decide), if_neg (by rw [keyOk_yes h1 hr]; decide), ← hst, if_pos hmac]; exact ⟨none, 0, 0, rfl, Own.nil _ _ _ _ _, L10_4⟩
            · have hmac : macB st ((xs.drop 8).take 640) = xs.drop 648 := by rw [show (xs.drop 648).take 32 = xs.drop 648 from List.take_of_length_le (by rw [List.length_drop, hl]; decide)] at hm; simpa using hm
              refine WC.skip ?_
              refine E.thenN ?_
              refine WC.seq ?_
              refine WC.draw [0, 4, 1, 2, 3, 5, 6, 7] mixed (by kernel_rfl) ?_
              intro w11 d11
              have L11 := L9_2.trans d11
              have bt := bt.le (h9_2.trans d11)
              refine G.any rfl rfl (.move rfl) rfl rfl rfl ?_
              refine G.rd rfl rfl (.loadAll ag179 (by simp [stopV, hst32]) rfl (bt)) rfl rfl rfl ?_
              refine G.ef rfl rfl rfl rfl rfl ?_
              refine Ef.makeSlice 80 80 Try.underlying107 el5 rfl rfl rfl rfl (by decide) (by decide) (by decide) ?_
              intro g11_1 w11_1 hg11_1 b11_1 h11_1
              have L11_1 := L11.trans h11_1
              refine ⟨fun _ => h11_1, ?_⟩
              have bz : Blk w11_1 g11_1 5 ((zeros 80).map u8v).toArray := b11_1.cast (made_u8 80)
              refine G.ef rfl rfl rfl rfl rfl ?_
              refine Ef.buildSliceN [_, _] Try.underlying211 el107 rfl (one2 _ _ _ _ _ _) rfl (by decide) (by decide) ?_
              intro g11_2 w11_2 hg11_2 b11_2 h11_2
              have L11_2 := L11_1.trans h11_2
              refine ⟨fun _ => h11_2, ?_⟩
              refine G.ef rfl rfl rfl rfl rfl ?_
              refine Ef.call go110 rfl rfl (concat_to ((xs.drop 8).take 640 ++ zeros 80) 720 w11_2 (b11_2.sl (s := 1) (n := 2) rfl) (.cons ((hS.le L11_2).cut c 8 648 (by decide) (by decide) hc) (.cons ((bz.le h11_2).sb (zeros_length 80)) (.nil _))) (by simp) (by simp [zeros_length, hS.len]) (by decide) (by decide) (by decide)) ?_
              rintro _ w11_3 ⟨A3, c3, rfl, o3, h11_3⟩
              refine ⟨_, rfl, ?_⟩
              have L11_3 := L11_2.trans h11_3
              refine ⟨fun _ => h11_3, ?_⟩
              refine G.ef rfl rfl rfl rfl rfl ?_
              refine Ef.call go112 rfl rfl (rho_ok st hst32 720 (by decide) w11_3) ?_
              rintro _ w11_5 ⟨A5, c5, rfl, o5, h11_5⟩
              refine ⟨_, rfl, ?_⟩
              have L11_5 := L11_3.trans h11_5
              refine ⟨fun _ => h11_5, ?_⟩
              refine G.ef rfl rfl rfl rfl rfl ?_
              refine Ef.call go109 rfl rfl (xor_ok w11_5 (o3.le h11_5).sb o5.sb (by decide)) ?_
              rintro _ w11_6 ⟨A6, c6, rfl, o6, h11_6⟩
              refine ⟨_, rfl, ?_⟩
              have L11_6 := L11_5.trans h11_6
              refine ⟨fun _ => h11_6, ?_⟩
              have o6 : Own w11_6 w11_5.heap.size 5 1 A6 720 c6 ((opened st ((xs.drop 8).take 640)).map u8v) := o6
              have ohl := o6.sb.len
              refine G.any rfl rfl (.assign rfl) rfl rfl rfl ?_
              refine G.nil ?_
              refine E.thenN ?_
              refine WC.seq ?_
              refine WC.seq ?_
              refine WC.region ?_
              refine W.any (.move rfl) rfl rfl rfl ?_
              refine W.ef rfl rfl rfl ?_
              refine Ef.call go118 rfl rfl (read_okO w11_6 o6.sb (by decide) o6.cap.1) ?_
              rintro _ w12_1 ⟨rfl, h12_1⟩
              refine ⟨_, rfl, ?_⟩
              have L12_1 := L11_6.trans h12_1
              refine W.ef0 rfl rfl ?_
              refine Ef.storeAll sz95 (by rfl) rfl rfl (bh.le L12_1) (by rfl) (hopV_one _) ?_
              intro w12_2 b12_2 h12_2
              have L12_2 : Le w w12_2 := (hL0.trans L12_1).then_ h12_2 (fun q hq => by cases hq; exact hg0_0)
              have bs2 := (bs.le L12_1).ch h12_2 (by simp [hne])
              have bt2 := (bt.le (h11_1.trans (h11_2.trans (h11_3.trans (h11_5.trans (h11_6.trans h12_1)))))).ch h12_2 (by simp; have := bh.lt; have := L8_4.size; omega)
              have all2 := (o6.sb.le h12_1).ch h12_2 (fun q hq => by cases hq; exact fun he => by obtain ⟨gA, hA, hgA, _⟩ := o6.lit (by decide); subst hA; simp [blkOf] at he; have := bh.lt; have := L11_5.size; omega)
              have bh2 := b12_2
              have hL2 := L12_2
              have LM := Le.refl w12_2
              obtain ⟨hh, hhh⟩ : ∃ hh, hh = readH (opened st ((xs.drop 8).take 640)) := ⟨_, rfl⟩
              have hho : HopOk hh := by rw [hhh]; exact readH_ok _
              rw [← hhh] at bh2
              refine W.nil ?_
              refine E.thenN ?_
              refine WC.seq ?_
              refine WC.region ?_
              refine W.rd (.loadAll ag95 (by rfl) rfl (bh2)) rfl rfl rfl ?_
              by_cases hy : mayB hh = true
              · refine W.ef rfl rfl rfl ?_
                refine Ef.call go105 rfl rfl (may_T hh hho hy w12_2) ?_
                rintro _ w13_1 ⟨rfl, h13_1⟩
                refine ⟨_, rfl, ?_⟩
                have L13_1 := LM.trans h13_1
                refine W.any (.not rfl) rfl rfl rfl ?_
                refine W.nil ?_
                refine E.thenN ?_
                refine WC.condF rfl ?_
                refine WC.skip ?_
                refine E.thenN ?_
                refine WC.seq ?_
                refine WC.seq ?_
                refine WC.region ?_
                refine W.any (.field0 fa95_0 rfl) rfl rfl rfl ?_
                refine W.rd (.loadB na3 rfl (bh2.le L13_1) (rfl)) rfl rfl rfl ?_
                refine W.any (.geq rfl rfl) rfl rfl rfl ?_
                refine W.nil ?_
                refine E.thenN ?_
                refine WC.cond rfl (fun hnx => ?_) (fun hnx => ?_)
                · obtain ⟨nx, hnxd⟩ : ∃ nx, nx = be8 (scale (numB xs) (blindB st)) ++ (opened st ((xs.drop 8).take 640)).drop 80 ++ ((opened st ((xs.drop 8).take 640)).drop 48).take 32 := ⟨_, rfl⟩
                  refine WC.draw [0, 1, 5, 6, 7, 8, 2, 3, 4, 9, 10, 11] mixed (by kernel_rfl) ?_
                  intro w16 d16
                  have L16 := L13_1.trans d16
                  have bt3 := bt2.le (L16)
                  have al3 := all2.le (L16)
                  refine G.any rfl rfl (.move rfl) rfl rfl rfl ?_
                  refine G.rd rfl rfl (.loadAll ag179 (by simp [stopV, hst32]) rfl (bt3)) rfl rfl rfl ?_
                  refine G.any rfl rfl (.move rfl) rfl rfl rfl ?_
                  refine G.any rfl rfl (.cutL (80) Try.underlying107 sz5 rfl rfl (rfl) (by decide) (o6.cap.1)) rfl rfl rfl ?_
                  refine G.any rfl rfl (.move rfl) rfl rfl rfl ?_
                  refine G.any rfl rfl (.cut (48) (80) Try.underlying107 sz5 rfl rfl (rfl) rfl (rfl) (by decide) (by have := o6.cap.1; omega)) rfl rfl rfl ?_
                  refine G.ef rfl rfl rfl rfl rfl ?_
                  refine Ef.call go119 rfl rfl (blind_ok st hst32 w16) ?_
                  rintro _ w16_2 ⟨rfl, h16_2⟩
                  refine ⟨_, rfl, ?_⟩
                  have L16_2 := L16.trans h16_2
                  refine ⟨fun _ => h16_2, ?_⟩
                  refine G.ef rfl rfl rfl rfl rfl ?_
                  refine Ef.call go93 rfl rfl (scale_ok _ _ (numB_lt xs) w16_2) ?_
                  rintro _ w16_3 ⟨rfl, h16_3⟩
                  refine ⟨_, rfl, ?_⟩
                  have L16_3 := L16_2.trans h16_3
                  refine ⟨fun _ => h16_3, ?_⟩
                  refine G.ef rfl rfl rfl rfl rfl ?_
                  refine Ef.call go115 rfl rfl (eight_ok _ w16_3) ?_
                  rintro _ w16_4 ⟨g16, rfl, hg16, B16, h16_4⟩
                  refine ⟨_, rfl, ?_⟩
                  have L16_4 := L16_3.trans h16_4
                  refine ⟨fun _ => h16_4, ?_⟩
                  refine G.ef rfl rfl rfl rfl rfl ?_
                  refine Ef.buildSliceN [_, _, _] Try.underlying211 el107 rfl one3 rfl (by decide) (by decide) ?_
                  intro g16_9 w16_9 hg16_9 b16_9 h16_9
                  have L16_9 := L16_4.trans h16_9
                  refine ⟨fun _ => h16_9, ?_⟩
                  refine G.ef rfl rfl rfl rfl rfl ?_
                  refine Ef.call go110 rfl rfl (concat_to nx 680 w16_9 (b16_9.sl (s := 1) (n := 3) rfl) (.cons ((B16.le h16_9).sb (be8_length _)) (.cons ((all2.le L16_9).cutL c6 80 (by decide) o6.cap.1) (.cons ((all2.le L16_9).cut c6 48 80 (by decide) (by decide) o6.cap.1) (.nil _)))) (by rw [hnxd]; simp) (by rw [hnxd]; simp [be8_length, ohl]) (by decide) (by decide) (by decide)) ?_
                  rintro _ w16_10 ⟨A10, c10, rfl, o10, h16_10⟩
                  refine ⟨_, rfl, ?_⟩
                  have L16_10 := L16_9.trans h16_10
                  refine ⟨fun _ => h16_10, ?_⟩
                  refine G.any rfl rfl (.assign rfl) rfl rfl rfl ?_
                  refine G.nil ?_
                  refine E.thenN ?_
                  refine WC.seq ?_
                  refine WC.drawS (fun w17 w' => Blk w' g0_0 95 (hopV hh).toArray ∧ Blk w' g8_5 179 (stopV st).toArray) [0, 1, 2, 3, 4, 5, 6, 7] mixed (by kernel_rfl) ?_
                  intro w17 d17
                  refine ⟨⟨(bh2.le L16_10).le d17, (bt2.le L16_10).le d17⟩, ?_⟩
                  have L17 := L16_10.trans d17
                  refine GS.rd rfl rfl (fun w' hs => .loadAll ag95 (by rfl) rfl hs.1) rfl rfl rfl ?_
                  refine GS.any rfl rfl (.move rfl) rfl rfl rfl ?_
                  refine GS.any rfl rfl (.field0 fa179_1 rfl) rfl rfl rfl ?_
                  refine GS.rd rfl rfl (fun w' hs => .as (Rd.loadSb ag89 rfl (hs.2.sbAt 1 32 st.2 hst32 (stopV_at st)) (by decide) (by decide)) (show _ = Value.agg (st.2.map u8v).toArray by rw [List.take_of_length_le (by omega)])) rfl rfl rfl ?_
                  refine GS.ef0 rfl rfl rfl rfl ?_
                  refine Ef.storeAll sz95 (by rfl) rfl rfl ((bh2.le L16_10).le d17) (by rfl) (hopV_one _) ?_
                  intro w17_4 b17_4 h17_4
                  have L17_4 : Le w w17_4 := (hL2.trans L17).then_ h17_4 (fun q hq => by cases hq; exact hg0_0)
                  have q17 := ((bs2.le L16_10).le d17).ch h17_4 (by simp [hne])
                  have t17 := ((bt2.le L16_10).le d17).ch h17_4 (by simp; have := bh.lt; have := L8_4.size; omega)
                  refine ⟨⟨b17_4, t17⟩, ?_⟩
                  refine GS.any rfl rfl (.assign rfl) rfl rfl rfl ?_
                  refine GS.ef0 rfl rfl rfl rfl ?_
                  refine Ef.storeAll sz89 (by simp [hst32]) rfl rfl (q17) (by simp [zeros, hst32]) (all_u8v _) ?_
                  intro w17_6 b17_6 h17_6
                  have L17_6 : Le w w17_6 := L17_4.then_ h17_6 (fun q hq => by cases hq; exact Nat.le_trans h0_0.size hg0_2)
                  have p17 := b17_4.ch h17_6 (by simp; exact fun h => hne h.symm)
                  refine ⟨⟨p17, t17.ch h17_6 (by simp; have := bs.lt; have := L8_4.size; omega)⟩, ?_⟩
                  refine GS.any rfl rfl (.assign rfl) rfl rfl rfl ?_
                  refine GS.nil ?_
                  refine E.thenN ?_
                  refine WC.ret ?_
                  refine E.retCTCT rfl rfl rfl rfl rfl p17 ag95 (by rfl) b17_6 ag89 (by simp [hst32]) ?_
                  rw [peelB, if_neg (by omega), if_neg (by rw [hl]; decide), if_neg (by rw [keyOk_yes h1 hr]; decide), ← hst, if_neg (by rw [hmac]; simp), ← hhh, if_neg (by rw [hy]; simp), ← hnxd, if_neg (by omega)]; exact ⟨A10, 680, c10, by rw [hst], (((o10.mono (hL2.trans L16_9).size).le d17).ch h17_4 (fun q hq => by cases hq; exact fun he => by have := (o10.row he).1; have := bh2.lt; have := L16_9.size; omega)).ch h17_6 (fun q hq => by cases hq; exact fun he => by have := (o10.row he).1; have := bs2.lt; have := L16_9.size; omega), L17_6⟩
                · refine WC.skip ?_
                  refine E.thenN ?_
                  refine WC.seq ?_
                  refine WC.drawS (fun w17 w' => Blk w' g0_0 95 (hopV hh).toArray ∧ Blk w' g8_5 179 (stopV st).toArray) [0, 1, 2, 3, 4, 5, 6, 7] mixed (by kernel_rfl) ?_
                  intro w17 d17
                  refine ⟨⟨(bh2.le L13_1).le d17, (bt2.le L13_1).le d17⟩, ?_⟩
                  have L17 := L13_1.trans d17
                  refine GS.rd rfl rfl (fun w' hs => .loadAll ag95 (by rfl) rfl hs.1) rfl rfl rfl ?_
                  refine GS.any rfl rfl (.move rfl) rfl rfl rfl ?_
                  refine GS.any rfl rfl (.field0 fa179_1 rfl) rfl rfl rfl ?_
                  refine GS.rd rfl rfl (fun w' hs => .as (Rd.loadSb ag89 rfl (hs.2.sbAt 1 32 st.2 hst32 (stopV_at st)) (by decide) (by decide)) (show _ = Value.agg (st.2.map u8v).toArray by rw [List.take_of_length_le (by omega)])) rfl rfl rfl ?_
                  refine GS.ef0 rfl rfl rfl rfl ?_
                  refine Ef.storeAll sz95 (by rfl) rfl rfl ((bh2.le L13_1).le d17) (by rfl) (hopV_one _) ?_
                  intro w17_4 b17_4 h17_4
                  have L17_4 : Le w w17_4 := (hL2.trans L17).then_ h17_4 (fun q hq => by cases hq; exact hg0_0)
                  have q17 := ((bs2.le L13_1).le d17).ch h17_4 (by simp [hne])
                  have t17 := ((bt2.le L13_1).le d17).ch h17_4 (by simp; have := bh.lt; have := L8_4.size; omega)
                  refine ⟨⟨b17_4, t17⟩, ?_⟩
                  refine GS.any rfl rfl (.assign rfl) rfl rfl rfl ?_
                  refine GS.ef0 rfl rfl rfl rfl ?_
                  refine Ef.storeAll sz89 (by simp [hst32]) rfl rfl (q17) (by simp [zeros, hst32]) (all_u8v _) ?_
                  intro w17_6 b17_6 h17_6
                  have L17_6 : Le w w17_6 := L17_4.then_ h17_6 (fun q hq => by cases hq; exact Nat.le_trans h0_0.size hg0_2)
                  have p17 := b17_4.ch h17_6 (by simp; exact fun h => hne h.symm)
                  refine ⟨⟨p17, t17.ch h17_6 (by simp; have := bs.lt; have := L8_4.size; omega)⟩, ?_⟩
                  refine GS.any rfl rfl (.assign rfl) rfl rfl rfl ?_
                  refine GS.nil ?_
                  refine E.thenN ?_
                  refine WC.ret ?_
                  refine E.retCTCT rfl rfl rfl rfl rfl p17 ag95 (by rfl) b17_6 ag89 (by simp [hst32]) ?_
                  rw [peelB, if_neg (by omega), if_neg (by rw [hl]; decide), if_neg (by rw [keyOk_yes h1 hr]; decide), ← hst, if_neg (by rw [hmac]; simp), ← hhh, if_neg (by rw [hy]; simp), if_pos (by omega)]; exact ⟨none, 0, 0, by rw [hst], Own.nil _ _ _ _ _, L17_6⟩
              · refine W.ef rfl rfl rfl ?_
                refine Ef.call go105 rfl rfl (may_F hh hho (by simpa using hy) w12_2) ?_
                rintro _ w13_1 ⟨rfl, h13_1⟩
                refine ⟨_, rfl, ?_⟩
                have L13_1 := LM.trans h13_1
                refine W.any (.not rfl) rfl rfl rfl ?_
                refine W.nil ?_
                refine E.thenN ?_
                refine WC.condT rfl ?_
                refine WC.seq ?_
                refine WC.drawS (fun w14 w' => Blk w' g0_2 89 ((zeros 32).map u8v).toArray) [0, 1, 2, 3, 4, 5] mixed (by kernel_rfl) ?_
                intro w14 d14
                refine ⟨(bs2.le L13_1).le d14, ?_⟩
                have L14 := L13_1.trans d14
                refine GS.any rfl rfl (.buildF pl95 z95 rfl (show Instr.fill _ _ _ = some (hopV noHop).toArray from rfl)) rfl rfl rfl ?_
                refine GS.rd rfl rfl (fun w' hs => .loadAll ag89 (by rfl) rfl hs) rfl rfl rfl ?_
                refine GS.ef0 rfl rfl rfl rfl ?_
                refine Ef.storeAll sz95 (by rfl) rfl rfl ((bh2.le L13_1).le d14) (by rfl) (hopV_one _) ?_
                intro w14_2 b14_2 h14_2
                have L14_2 : Le w w14_2 := (hL2.trans L14).then_ h14_2 (fun q hq => by cases hq; exact hg0_0)
                have q14 := ((bs2.le L13_1).le d14).ch h14_2 (by simp [hne])
                refine ⟨q14, ?_⟩
                refine GS.any rfl rfl (.assign rfl) rfl rfl rfl ?_
                refine GS.ef0 rfl rfl rfl rfl ?_
                refine Ef.storeAll sz89 (by rfl) rfl rfl (q14) (by rfl) (all_u8v _) ?_
                intro w14_4 b14_4 h14_4
                have L14_4 : Le w w14_4 := L14_2.then_ h14_4 (fun q hq => by cases hq; exact Nat.le_trans h0_0.size hg0_2)
                have p14 := b14_2.ch h14_4 (by simp; exact fun h => hne h.symm)
                refine ⟨b14_4, ?_⟩
                refine GS.any rfl rfl (.assign rfl) rfl rfl rfl ?_
                refine GS.nil ?_
                refine E.thenN ?_
                refine WC.ret ?_
                refine E.thenR ?_
                refine E.retCTCT rfl rfl rfl rfl rfl p14 ag95 (by rfl) b14_4 ag89 (by rfl) ?_
                rw [peelB, if_neg (by omega), if_neg (by rw [hl]; decide), if_neg (by rw [keyOk_yes h1 hr]; decide), ← hst, if_neg (by rw [hmac]; simp), ← hhh, if_pos (by simpa using hy)]; exact ⟨none, 0, 0, rfl, Own.nil _ _ _ _ _, L14_4⟩
          · refine W.efg rfl rfl rfl (rfl) rfl rfl ?_
            refine Ef.call go90 rfl rfl (pright_F _ (numB_lt xs) (by simpa using hr) w5_1) ?_
            rintro _ w6_4 ⟨rfl, h6_4⟩
            refine ⟨_, rfl, ?_⟩
            have L6_4 := L5_1.trans h6_4
            refine W.rdg (Any.rd (.not rfl) _) rfl rfl rfl (rfl) rfl rfl ?_
            refine W.any (.pickF rfl rfl rfl) rfl rfl rfl ?_
            refine W.nil ?_
            refine E.thenN ?_
            refine WC.condT rfl ?_
            refine WC.seq ?_
            refine WC.drawS (fun w7 w' => Blk w' g0_0 95 (hopV noHop).toArray ∧ Blk w' g0_2 89 ((zeros 32).map u8v).toArray) [0, 1, 2, 3, 4, 5] mixed (by kernel_rfl) ?_
            intro w7 d7
            refine ⟨⟨(bh.le L6_4).le d7, (bs.le L6_4).le d7⟩, ?_⟩
            have L7 := L6_4.trans d7
            refine GS.rd rfl rfl (fun w' hs => .loadAll ag95 (by rfl) rfl hs.1) rfl rfl rfl ?_
            refine GS.rd rfl rfl (fun w' hs => .loadAll ag89 (by rfl) rfl hs.2) rfl rfl rfl ?_
            refine GS.ef0 rfl rfl rfl rfl ?_
            refine Ef.storeAll sz95 (by rfl) rfl rfl ((bh.le L6_4).le d7) (by rfl) (hopV_one _) ?_
            intro w7_2 b7_2 h7_2
            have L7_2 : Le w w7_2 := (hL0.trans L7).then_ h7_2 (fun q hq => by cases hq; exact hg0_0)
            have q7 := ((bs.le L6_4).le d7).ch h7_2 (by simp [hne])
            refine ⟨⟨b7_2, q7⟩, ?_⟩
            refine GS.any rfl rfl (.assign rfl) rfl rfl rfl ?_
            refine GS.ef0 rfl rfl rfl rfl ?_
            refine Ef.storeAll sz89 (by rfl) rfl rfl (q7) (by rfl) (all_u8v _) ?_
            intro w7_4 b7_4 h7_4
            have L7_4 : Le w w7_4 := L7_2.then_ h7_4 (fun q hq => by cases hq; exact Nat.le_trans h0_0.size hg0_2)
            have p7 := b7_2.ch h7_4 (by simp; exact fun h => hne h.symm)
            refine ⟨⟨p7, b7_4⟩, ?_⟩
            refine GS.any rfl rfl (.assign rfl) rfl rfl rfl ?_
            refine GS.nil ?_
            refine E.thenN ?_
            refine WC.ret ?_
            refine E.thenR ?_
            refine E.retCTCT rfl rfl rfl rfl rfl p7 ag95 (by rfl) b7_4 ag89 (by rfl) ?_
            rw [peelB, if_neg (by omega), if_neg (by rw [hl]; decide), if_pos (keyOk_no (by simpa using hr))]; exact ⟨none, 0, 0, rfl, Own.nil _ _ _ _ _, L7_4⟩
    · refine W.efg rfl rfl rfl (rfl) rfl rfl ?_
      refine Ef.call go60 rfl rfl (fright_F kk hq w0_2) ?_
      rintro _ w1_4 ⟨rfl, h1_4⟩
      refine ⟨_, rfl, ?_⟩
      have L1_4 := LL.trans h1_4
      refine W.rdg (Any.rd (.not rfl) _) rfl rfl rfl (rfl) rfl rfl ?_
      refine W.any (.pickF rfl rfl rfl) rfl rfl rfl ?_
      refine W.nil ?_
      refine E.thenN ?_
      refine WC.condT rfl ?_
      refine WC.seq ?_
      refine WC.drawS (fun w2 w' => Blk w' g0_0 95 (hopV noHop).toArray ∧ Blk w' g0_2 89 ((zeros 32).map u8v).toArray) [0, 1, 2, 3, 4, 5] mixed (by kernel_rfl) ?_
      intro w2 d2
      refine ⟨⟨(bh.le L1_4).le d2, (bs.le L1_4).le d2⟩, ?_⟩
      have L2 := L1_4.trans d2
      refine GS.rd rfl rfl (fun w' hs => .loadAll ag95 (by rfl) rfl hs.1) rfl rfl rfl ?_
      refine GS.rd rfl rfl (fun w' hs => .loadAll ag89 (by rfl) rfl hs.2) rfl rfl rfl ?_
      refine GS.ef0 rfl rfl rfl rfl ?_
      refine Ef.storeAll sz95 (by rfl) rfl rfl ((bh.le L1_4).le d2) (by rfl) (hopV_one _) ?_
      intro w2_2 b2_2 h2_2
      have L2_2 : Le w w2_2 := (hL0.trans L2).then_ h2_2 (fun q hq => by cases hq; exact hg0_0)
      have q2 := ((bs.le L1_4).le d2).ch h2_2 (by simp [hne])
      refine ⟨⟨b2_2, q2⟩, ?_⟩
      refine GS.any rfl rfl (.assign rfl) rfl rfl rfl ?_
      refine GS.ef0 rfl rfl rfl rfl ?_
      refine Ef.storeAll sz89 (by rfl) rfl rfl (q2) (by rfl) (all_u8v _) ?_
      intro w2_4 b2_4 h2_4
      have L2_4 : Le w w2_4 := L2_2.then_ h2_4 (fun q hq => by cases hq; exact Nat.le_trans h0_0.size hg0_2)
      have p2 := b2_2.ch h2_4 (by simp; exact fun h => hne h.symm)
      refine ⟨⟨p2, b2_4⟩, ?_⟩
      refine GS.any rfl rfl (.assign rfl) rfl rfl rfl ?_
      refine GS.nil ?_
      refine E.thenN ?_
      refine WC.ret ?_
      refine E.thenR ?_
      refine E.retCTCT rfl rfl rfl rfl rfl p2 ag95 (by rfl) b2_4 ag89 (by rfl) ?_
      rw [peelB, if_pos (.inr (by omega))]; exact ⟨none, 0, 0, rfl, Own.nil _ _ _ _ _, L2_4⟩
end Go.Proofs.Ytfgakofjkldcjaa

namespace Go.Sx
open Go Go.RowKit
end Go.Sx
namespace Go.Proofs.Ytfgakofjkldcjaa
open Go Go.Sx Go.Hsp Go.Num Go.Osp
set_option maxRecDepth 20000
theorem plus_ok (a b : Nat) (ha : a < 2305843009213688669) (hb : b < 2305843009213688669) (w : World) : Calls Try.prog 103 #[.int .u64 ((a : Nat) : Int), .int .u64 ((b : Nat) : Int)] w fun e w' => e = .returned (.int .u64 (((a + b) % q : Nat) : Int)) ∧ Le w w' := by
  refine enter Try.func103 rfl rfl ?_
  have L0 := Le.refl w
  refine WC.seq ?_
  refine WC.region ?_
  refine W.any (.assign rfl) rfl rfl rfl ?_
  refine W.nil ?_
  refine E.thenN ?_
  refine WC.seq ?_
  refine WC.region ?_
  refine W.any (.move rfl) rfl rfl rfl ?_
  refine W.any (.move rfl) rfl rfl rfl ?_
  refine W.any (.addN (a) (b) (a + b) rfl rfl rfl rfl (Nat.mod_eq_of_lt (by omega))) rfl rfl rfl ?_
  refine W.any (.remN (a + b) (2305843009213688669) ((a + b) % 2305843009213688669) rfl rfl rfl rfl (by decide) (rfl)) rfl rfl rfl ?_
  refine W.any (.assign rfl) rfl rfl rfl ?_
  refine W.nil ?_
  refine E.thenN ?_
  refine WC.ret ?_
  refine E.ret1 rfl rfl ?_
  exact ⟨rfl, L0⟩

theorem fadd_ok (a b : Nat) (w : World) : Calls Try.prog 55 #[.int .u64 ((a : Nat) : Int), .int .u64 ((b : Nat) : Int)] w fun e w' => e = .returned (.int .u64 ((addS a b : Nat) : Int)) ∧ Le w w' := by
  refine enter Try.func55 rfl rfl ?_
  have L0 := Le.refl w
  refine WC.seq ?_
  refine WC.region ?_
  refine W.any (.assign rfl) rfl rfl rfl ?_
  refine W.nil ?_
  refine E.thenN ?_
  refine WC.seq ?_
  refine WC.region ?_
  refine W.any (.move rfl) rfl rfl rfl ?_
  refine W.ef rfl rfl rfl ?_
  refine Ef.call go102 rfl rfl (of_ok a w) ?_
  rintro _ w1_1 ⟨rfl, h1_1⟩
  refine ⟨_, rfl, ?_⟩
  have L1_1 := L0.trans h1_1
  refine W.any (.move rfl) rfl rfl rfl ?_
  refine W.ef rfl rfl rfl ?_
  refine Ef.call go102 rfl rfl (of_ok b w1_1) ?_
  rintro _ w1_3 ⟨rfl, h1_3⟩
  refine ⟨_, rfl, ?_⟩
  have L1_3 := L1_1.trans h1_3
  refine W.ef rfl rfl rfl ?_
  refine Ef.call go103 rfl rfl (plus_ok (a % q) (b % q) (Nat.mod_lt _ (by decide)) (Nat.mod_lt _ (by decide)) w1_3) ?_
  rintro _ w1_4 ⟨rfl, h1_4⟩
  refine ⟨_, rfl, ?_⟩
  have L1_4 := L1_3.trans h1_4
  refine W.any (.assign rfl) rfl rfl rfl ?_
  refine W.nil ?_
  refine E.thenN ?_
  refine WC.ret ?_
  refine E.ret1 rfl rfl ?_
  exact ⟨rfl, L1_4⟩

end Go.Proofs.Ytfgakofjkldcjaa

namespace Go.Proofs.Ytfgakofjkldcjaa
open Go Go.Sx Go.Hsp Go.Num Go.Osp Go.Gsp
set_option maxRecDepth 20000
set_option linter.unusedVariables false
set_option linter.unusedSimpArgs false
def iv (x : Int) : List Value := [.int .i64 x]
theorem iv_row : RowF iv 1 := ⟨fun _ => rfl, fun x v hv => by simp [iv] at hv; subst hv; rfl, by decide⟩
def pv1 (x : Nat) : List Value := [pv x]
theorem pv1_row : RowF pv1 1 := ⟨fun _ => rfl, fun x v hv => by simp [pv1] at hv; subst hv; rfl, by decide⟩
theorem hopV_row : RowF hopV 6 := ⟨fun _ => rfl, hopV_one, by decide⟩
theorem coins_ok (a : Int) (w : World) : Calls Try.prog 129 #[.int .i64 (a)] w fun r w' => r = .returned (.bool (coinB a)) ∧ Le w w' := by
  refine enter Try.func129 rfl rfl ?_
  have L0 := Le.refl w
  refine WC.seq ?_
  refine WC.region ?_
  refine W.any (.assign rfl) rfl rfl rfl ?_
  refine W.nil ?_
  refine E.thenN ?_
  refine WC.seq ?_
  refine WC.region ?_
  refine W.any (.move rfl) rfl rfl rfl ?_
  refine W.any (.geq rfl rfl) rfl rfl rfl ?_
  by_cases q1_2 : 0 ≤ a
  · refine W.any (.dec (.move rfl) (decide_eq_true q1_2)) rfl rfl rfl ?_
    refine W.rdg (Any.rd (.move rfl) _) rfl rfl rfl (rfl) rfl rfl ?_
    refine W.rdg (Any.rd (.leq rfl rfl) _) rfl rfl rfl (rfl) rfl rfl ?_
    refine W.any (.pickT rfl rfl rfl) rfl rfl rfl ?_
    refine W.any (.assign rfl) rfl rfl rfl ?_
    refine W.nil ?_
    refine E.thenN ?_
    refine WC.ret ?_
    refine E.retG1 rfl rfl ?_
    exact ⟨congrArg (fun b => Ending.returned (Value.bool b)) (by simp [coinB, inB, q1_2]), L0⟩
  · refine W.any (.dec (.move rfl) (decide_eq_false q1_2)) rfl rfl rfl ?_
    refine W.skip rfl rfl rfl (rfl) rfl rfl ?_
    refine W.skip rfl rfl rfl (rfl) rfl rfl ?_
    refine W.any (.pickF rfl rfl rfl) rfl rfl rfl ?_
    refine W.any (.assign rfl) rfl rfl rfl ?_
    refine W.nil ?_
    refine E.thenN ?_
    refine WC.ret ?_
    refine E.retG1 rfl rfl ?_
    exact ⟨congrArg (fun b => Ending.returned (Value.bool b)) (by simp [coinB, inB, q1_2]), L0⟩

theorem nadd_ok (a b : Int) (w : World) : Calls Try.prog 75 #[.int .i64 (a), .int .i64 (b)] w fun r w' => r = .returned (.tuple #[.int .i64 (addC a b).1, .bool (addC a b).2]) ∧ Le w w' := by
  refine enter Try.func75 rfl rfl ?_
  have L0 := Le.refl w
  refine WC.seq ?_
  refine WC.region ?_
  refine W.any (.assign rfl) rfl rfl rfl ?_
  refine W.any (.assign rfl) rfl rfl rfl ?_
  refine W.nil ?_
  refine E.thenN ?_
  refine WC.seq ?_
  refine WC.seq ?_
  refine WC.region ?_
  refine W.any (.move rfl) rfl rfl rfl ?_
  refine W.ef rfl rfl rfl ?_
  refine Ef.call go129 rfl rfl (coins_ok a w) ?_
  rintro _ w1_1 ⟨rfl, h1_1⟩
  refine ⟨_, rfl, ?_⟩
  have L1 := L0.trans h1_1
  refine W.any (.not rfl) rfl rfl rfl ?_
  by_cases q1_3 : coinB a = true
  · refine W.any (.dec (.move rfl) (congrArg not (q1_3))) rfl rfl rfl ?_
    refine W.rdg (Any.rd (.move rfl) _) rfl rfl rfl (rfl) rfl rfl ?_
    refine W.efg rfl rfl rfl (rfl) rfl rfl ?_
    refine Ef.call go129 rfl rfl (coins_ok b w1_1) ?_
    rintro _ w1_5 ⟨rfl, h1_5⟩
    refine ⟨_, rfl, ?_⟩
    have L2 := L1.trans h1_5
    refine W.rdg (Any.rd (.not rfl) _) rfl rfl rfl (rfl) rfl rfl ?_
    refine W.any (.pickF rfl rfl rfl) rfl rfl rfl ?_
    by_cases q1_8 : coinB b = true
    · refine W.any (.dec (.move rfl) (congrArg not (q1_8))) rfl rfl rfl ?_
      refine W.rdg (Any.rd (.move rfl) _) rfl rfl rfl (rfl) rfl rfl ?_
      refine W.rdg (Any.rd (.move rfl) _) rfl rfl rfl (rfl) rfl rfl ?_
      have hb1 := inB_T (show inB b 0 1125899906842624 = true by assumption)
      refine W.rdg (Any.rd (.sub rfl rfl (by omega)) _) rfl rfl rfl (rfl) rfl rfl ?_
      refine W.rdg (Any.rd (.gtr rfl rfl) _) rfl rfl rfl (rfl) rfl rfl ?_
      refine W.any (.pickF rfl rfl rfl) rfl rfl rfl ?_
      refine W.nil ?_
      refine E.thenN ?_
      by_cases c0 : (1125899906842624 - b) < a
      · refine WC.condY rfl (decide_eq_true c0) ?_
        refine WC.seq ?_
        refine WC.region ?_
        refine W.any (.assign rfl) rfl rfl rfl ?_
        refine W.any (.assign rfl) rfl rfl rfl ?_
        refine W.nil ?_
        refine E.thenN ?_
        refine WC.ret ?_
        refine E.thenR ?_
        refine E.retG2 rfl rfl rfl ?_
        exact ⟨(by first | rfl | (simp [addC, q1_3, q1_8, c0]; done) | (simp [addC, q1_3, q1_8, c0]; omega) | (simp [addC, q1_3, q1_8, c0]; split <;> first | (exfalso; omega) | (simp; done) | (simp; omega))), L2⟩
      · refine WC.condN rfl (decide_eq_false c0) ?_
        refine WC.skip ?_
        refine E.thenN ?_
        refine WC.seq ?_
        refine WC.region ?_
        refine W.any (.move rfl) rfl rfl rfl ?_
        refine W.any (.move rfl) rfl rfl rfl ?_
        refine W.any (.add rfl rfl (by have := inB_T (show inB a 0 1125899906842624 = true by assumption); have := inB_T (show inB b 0 1125899906842624 = true by assumption); omega)) rfl rfl rfl ?_
        refine W.any (.assign rfl) rfl rfl rfl ?_
        refine W.any (.assign rfl) rfl rfl rfl ?_
        refine W.nil ?_
        refine E.thenN ?_
        refine WC.ret ?_
        refine E.retG2 rfl rfl rfl ?_
        exact ⟨(by first | rfl | (simp [addC, q1_3, q1_8, c0]; done) | (simp [addC, q1_3, q1_8, c0]; omega) | (simp [addC, q1_3, q1_8, c0]; split <;> first | (exfalso; omega) | (simp; done) | (simp; omega))), L2⟩
    · refine W.any (.dec (.move rfl) (congrArg not ((Bool.eq_false_iff.2 q1_8)))) rfl rfl rfl ?_
      refine W.skip rfl rfl rfl (rfl) rfl rfl ?_
      refine W.skip rfl rfl rfl (rfl) rfl rfl ?_
      refine W.skip rfl rfl rfl (rfl) rfl rfl ?_
      refine W.skip rfl rfl rfl (rfl) rfl rfl ?_
      refine W.any (.pickT rfl rfl rfl) rfl rfl rfl ?_
      refine W.nil ?_
      refine E.thenN ?_
      refine WC.condT rfl ?_
      refine WC.seq ?_
      refine WC.region ?_
      refine W.any (.assign rfl) rfl rfl rfl ?_
      refine W.any (.assign rfl) rfl rfl rfl ?_
      refine W.nil ?_
      refine E.thenN ?_
      refine WC.ret ?_
      refine E.thenR ?_
      refine E.retG2 rfl rfl rfl ?_
      exact ⟨(by first | rfl | (simp [addC, q1_3, q1_8]; done) | (simp [addC, q1_3, q1_8]; omega) | (simp [addC, q1_3, q1_8]; split <;> first | (exfalso; omega) | (simp; done) | (simp; omega))), L2⟩
  · refine W.any (.dec (.move rfl) (congrArg not ((Bool.eq_false_iff.2 q1_3)))) rfl rfl rfl ?_
    refine W.skip rfl rfl rfl (rfl) rfl rfl ?_
    refine W.skip rfl rfl rfl (rfl) rfl rfl ?_
    refine W.skip rfl rfl rfl (rfl) rfl rfl ?_
    refine W.any (.pickT rfl rfl rfl) rfl rfl rfl ?_
    refine W.any (.move rfl) rfl rfl rfl ?_
    refine W.skip rfl rfl rfl (rfl) rfl rfl ?_
    refine W.skip rfl rfl rfl (rfl) rfl rfl ?_
    refine W.skip rfl rfl rfl (rfl) rfl rfl ?_
    refine W.skip rfl rfl rfl (rfl) rfl rfl ?_
    refine W.any (.pickT rfl rfl rfl) rfl rfl rfl ?_
    refine W.nil ?_
    refine E.thenN ?_
    refine WC.condT rfl ?_
    refine WC.seq ?_
    refine WC.region ?_
    refine W.any (.assign rfl) rfl rfl rfl ?_
    refine W.any (.assign rfl) rfl rfl rfl ?_
    refine W.nil ?_
    refine E.thenN ?_
    refine WC.ret ?_
    refine E.thenR ?_
    refine E.retG2 rfl rfl rfl ?_
    exact ⟨(by first | rfl | (simp [addC, q1_3]; done) | (simp [addC, q1_3]; omega) | (simp [addC, q1_3]; split <;> first | (exfalso; omega) | (simp; done) | (simp; omega))), L1⟩

end Go.Proofs.Ytfgakofjkldcjaa

namespace Go.Proofs.Ytfgakofjkldcjaa
open Go Go.Sx Go.Hsp Go.Num Go.Osp Go.Gsp
set_option maxRecDepth 20000
set_option linter.unusedSimpArgs false
set_option linter.unusedVariables false
def partV (x : Part) : List Value := [.int .i64 x.ch, .int .i64 x.id, .int .i64 x.am, .int .i64 x.ex, .int .u64 ((x.pt : Nat) : Int), .int .u64 ((x.bl : Nat) : Int)]
theorem partV_row : RowF partV 6 := ⟨fun _ => rfl, fun x v hv => by simp [partV] at hv; rcases hv with rfl | rfl | rfl | rfl | rfl | rfl <;> rfl, by decide⟩
def paidV (x : Paid) : List Value := [.int .i64 x.ch, .int .i64 x.id, .int .u64 ((x.sec : Nat) : Int)]
theorem paidV_row : RowF paidV 3 := ⟨fun _ => rfl, fun x v hv => by simp [paidV] at hv; rcases hv with rfl | rfl | rfl <;> rfl, by decide⟩
def ckV (k : Int × Int) : List Value := [.int .i64 k.1, .int .i64 k.2]
def ikf (x : Int) : Value := .int .i64 x
def ckf (k : Int × Int) : Value := .agg (ckV k).toArray
def ptf (g : Nat) : Value := .pointer (some ⟨g, 0, none⟩)
theorem kint : KeyG Try.prog 3 ikf := KeyG.int Try.underlying3
theorem eqv_ck {d : Nat} (a b : Int × Int) : Eqv Try.prog (d + 2) 135 (ckf a) (ckf b) (decide (a = b)) := by
  have h := Eqv.ints (P := Try.prog) (d := d) (t := 135) (ckV a) (ckV b) [(.i64, 0), (.i64, 1)] (by kernel_rfl) (by kernel_rfl) (by
    rw [show (Try.prog.fieldsOf 135) = _ from (by unfold Program.fieldsOf; rw [Try.underlying135])]
    exact ⟨by decide, rfl, Try.underlying3, ⟨_, _, rfl, rfl⟩, by decide, rfl, Try.underlying3, ⟨_, _, rfl, rfl⟩, trivial⟩)
  have e : eqAll (ckV a) (ckV b) [(.i64, 0), (.i64, 1)] = decide (a = b) := by
    obtain ⟨a1, a2⟩ := a
    obtain ⟨b1, b2⟩ := b
    simp only [eqAll, ckV, List.getElem?_cons_zero, List.getElem?_cons_succ, Prod.mk.injEq]
    rw [Bool.eq_iff_iff]
    simp only [Bool.and_eq_true, decide_eq_true_eq, Bool.and_true]
  rw [e] at h
  exact h
theorem check_ck (b : Bool) (k : Int × Int) (w : World) : ∀ m : Nat, (Instr.checkKey b (m + 2) 135 (ckf k)).run Try.prog w = .ok () w := by
  intro m
  have hi : ∀ (v : Int) (w : World), (Instr.checkKey b (m + 1) 3 (.int .i64 v)).run Try.prog w = .ok () w := fun v w => by unfold Instr.checkKey; simp [run_underlying Try.underlying3]
  have p0 : ∀ w : World, (part 3 (ckV k).toArray 0).run Try.prog w = .ok (.int .i64 k.1) w := run_part1 na3 rfl
  have p1 : ∀ w : World, (part 3 (ckV k).toArray 1).run Try.prog w = .ok (.int .i64 k.2) w := run_part1 na3 rfl
  unfold Instr.checkKey
  simp only [Sem.run_bind, run_underlying Try.underlying135, Result.andThen_ok, ckf]
  simp [p0, p1, hi]
theorem kcond : KeyG Try.prog 135 ckf := KeyG.struct Try.underlying135 (fun b k w => check_ck b k w 9998) (fun k => ⟨_, rfl⟩) (fun a b => eqv_ck (d := 9998) a b)
/-- What is left behind parts are let go. -/
def delK (l : List Part) (m : List (Nat × (Int × Int) × Bool)) : List (Nat × (Int × Int) × Bool) := m.filter fun y => !(l.any fun p => decide (y.2.1 = keyP p))
theorem delK_nil (m : List (Nat × (Int × Int) × Bool)) : delK [] m = m := by simp [delK]
theorem delK_snoc (l : List Part) (k : Nat) (h : k < l.length) (m : List (Nat × (Int × Int) × Bool)) : (delK (l.take k) m).filter (fun y => decide (y.2.1 ≠ ((l.getD k noPart).ch, (l.getD k noPart).id))) = delK (l.take (k + 1)) m := by
  unfold delK
  rw [List.filter_filter, List.take_add_one, getS l noPart h]
  apply List.filter_congr
  intro y _
  rw [List.any_append]
  rw [Bool.eq_iff_iff]
  simp only [Bool.and_eq_true, Bool.not_eq_true', List.any_cons, List.any_nil, Bool.or_false, Bool.or_eq_false_iff, decide_eq_true_eq, Option.toList, decide_eq_false_iff_not, keyP, ne_eq]
  exact ⟨fun h => ⟨h.2, decide_eq_false h.1⟩, fun h => ⟨of_decide_eq_false h.2, h.1⟩⟩
theorem may_ok3 {gp ga gh gq cq ck : Nat} {Aq : Option Addr} {lh : List (Nat × (Int × Int) × Bool)} (p : Pay) (x : Part) (ht : Int) (w : World) (hp : Blk w gp 117 #[.map (some ga), .map (some gh)]) (hq : Blk w gq 126 #[.int .u64 (((p.sec : Nat) : Int)), .int .i64 (p.tot), .int .i64 (p.by_), .int .i64 (p.lst), .slice Aq p.held.length cq, .int .i64 (p.sum), .bool (p.ovr), .bool (p.paid)]) (hM : MapG w ckf Value.bool gh lh ck) (hhl : p.held.length ≤ 1000000) : Calls Try.prog 64 #[.pointer (some ⟨gp, 0, none⟩), .pointer (some ⟨gq, 0, none⟩), .agg (partV x).toArray, .int .i64 (ht)] w fun r w' => r = .returned (.tuple #[.int .i64 (mayP p (fun k => (getG k lh).getD false) x ht).1, .int .i64 (mayP p (fun k => (getG k lh).getD false) x ht).2]) ∧ Le w w' := by
  refine enter Try.func64 rfl rfl ?_
  have L0 := Le.refl w
  refine WC.seq ?_
  refine WC.region ?_
  refine W.ef rfl rfl rfl ?_
  refine Ef.boxA rfl ?_
  intro g0_0 w0_0 hg0_0 b0_0 h0_0
  have L1 := L0.trans h0_0
  have b0_0 : Blk w0_0 g0_0 33 (partV x).toArray := b0_0
  refine W.any (.assign rfl) rfl rfl rfl ?_
  refine W.any (.assign rfl) rfl rfl rfl ?_
  refine W.nil ?_
  refine E.thenN ?_
  refine WC.seq ?_
  refine WC.draw [0, 1, 2, 3, 4, 5, 6, 7, 8, 9, 10, 11] mixed (by kernel_rfl) ?_
  intro w1 d1
  have L2 := L1.trans d1
  refine G.any rfl rfl (.move rfl) rfl rfl rfl ?_
  refine G.any rfl rfl (.nilCheck rfl) rfl rfl rfl ?_
  refine G.any rfl rfl (.field0 fa126_5 rfl) rfl rfl rfl ?_
  refine G.rd rfl rfl (.loadB (v := .int .i64 (p.sum)) na3 rfl (hq.le L2) rfl) rfl rfl rfl ?_
  refine G.any rfl rfl (.field0 fa33_2 rfl) rfl rfl rfl ?_
  have f3 := (b0_0.le d1)
  refine G.rd rfl rfl (.loadB (v := .int .i64 (x.am)) na3 rfl f3 rfl) rfl rfl rfl ?_
  refine G.ef rfl rfl rfl rfl rfl ?_
  refine Ef.call go75 rfl rfl (nadd_ok p.sum x.am w1) ?_
  rintro _ w1_6 ⟨rfl, h1_6⟩
  refine ⟨_, rfl, ?_⟩
  refine ⟨fun _ => h1_6, ?_⟩
  have L4 := L2.trans h1_6
  refine G.any rfl rfl (.move rfl) rfl rfl rfl ?_
  refine G.any rfl rfl (.extract (v := .int .i64 ((addC p.sum x.am).1)) rfl rfl) rfl rfl rfl ?_
  refine G.any rfl rfl (.extract (v := .bool ((addC p.sum x.am).2)) rfl rfl) rfl rfl rfl ?_
  refine G.any rfl rfl (.assign rfl) rfl rfl rfl ?_
  refine G.any rfl rfl (.assign rfl) rfl rfl rfl ?_
  refine G.nil ?_
  refine E.thenN ?_
  refine WC.seq ?_
  refine WC.block ?_
  refine WC.seq ?_
  refine WC.region ?_
  refine W.any (.move rfl) rfl rfl rfl ?_
  refine W.any (.nilCheck rfl) rfl rfl rfl ?_
  refine W.any (.field0 fa126_6 rfl) rfl rfl rfl ?_
  refine W.rd (.loadB (v := .bool (p.ovr)) na4 rfl (hq.le L4) rfl) rfl rfl rfl ?_
  refine W.any (.assign rfl) rfl rfl rfl ?_
  refine W.nil ?_
  refine E.thenN ?_
  by_cases c0 : p.ovr = true
  · refine WC.condY rfl (c0) ?_
    refine WC.seq ?_
    refine WC.region ?_
    refine W.any (.assign rfl) rfl rfl rfl ?_
    refine W.any (.assign rfl) rfl rfl rfl ?_
    refine W.nil ?_
    refine E.thenN ?_
    refine WC.ret ?_
    refine E.blkR ?_
    refine E.thenR ?_
    refine E.retG2 rfl rfl rfl ?_
    have h8 : ((8 : Int) ≤ ↑p.held.length) = (8 ≤ p.held.length) := propext (by omega); (try simp only [ne_eq, Decidable.not_not, Int.natCast_inj, h8] at c0); exact ⟨by unfold mayP opensP keyP; simp [c0]; try omega, L4⟩
  · refine WC.condN rfl ((Bool.eq_false_iff.2 c0)) ?_
    refine WC.seq ?_
    refine WC.region ?_
    refine W.any (.move rfl) rfl rfl rfl ?_
    refine W.any (.move rfl) rfl rfl rfl ?_
    refine W.any (.nilCheck rfl) rfl rfl rfl ?_
    refine W.any (.field0 fa126_2 rfl) rfl rfl rfl ?_
    refine W.rd (.loadB (v := .int .i64 (p.by_)) na3 rfl (hq.le L4) rfl) rfl rfl rfl ?_
    refine W.any (.geq rfl rfl) rfl rfl rfl ?_
    refine W.any (.assign rfl) rfl rfl rfl ?_
    refine W.nil ?_
    refine E.thenN ?_
    by_cases c1 : p.by_ ≤ ht
    · refine WC.condY rfl (decide_eq_true c1) ?_
      refine WC.seq ?_
      refine WC.region ?_
      refine W.any (.assign rfl) rfl rfl rfl ?_
      refine W.any (.assign rfl) rfl rfl rfl ?_
      refine W.nil ?_
      refine E.thenN ?_
      refine WC.ret ?_
      refine E.blkR ?_
      refine E.thenR ?_
      refine E.retG2 rfl rfl rfl ?_
      have h8 : ((8 : Int) ≤ ↑p.held.length) = (8 ≤ p.held.length) := propext (by omega); (try simp only [ne_eq, Decidable.not_not, Int.natCast_inj, h8] at c0); (try simp only [ne_eq, Decidable.not_not, Int.natCast_inj, h8] at c1); exact ⟨by unfold mayP opensP keyP; simp [c0, c1]; try omega, L4⟩
    · refine WC.condN rfl (decide_eq_false c1) ?_
      refine WC.seq ?_
      refine WC.region ?_
      refine W.any (.field0 fa33_2 rfl) rfl rfl rfl ?_
      have f5 := (f3.le h1_6)
      refine W.rd (.loadB (v := .int .i64 (x.am)) na3 rfl f5 rfl) rfl rfl rfl ?_
      refine W.any (.lss rfl rfl) rfl rfl rfl ?_
      by_cases q6_3 : x.am < 1
      · refine W.any (.dec (.move rfl) (decide_eq_true q6_3)) rfl rfl rfl ?_
        refine W.skip rfl rfl rfl (rfl) rfl rfl ?_
        refine W.skip rfl rfl rfl (rfl) rfl rfl ?_
        refine W.skip rfl rfl rfl (rfl) rfl rfl ?_
        refine W.any (.pickT rfl rfl rfl) rfl rfl rfl ?_
        refine W.any (.assign rfl) rfl rfl rfl ?_
        refine W.nil ?_
        refine E.thenN ?_
        refine WC.condT rfl ?_
        refine WC.seq ?_
        refine WC.region ?_
        refine W.any (.assign rfl) rfl rfl rfl ?_
        refine W.any (.assign rfl) rfl rfl rfl ?_
        refine W.nil ?_
        refine E.thenN ?_
        refine WC.ret ?_
        refine E.blkR ?_
        refine E.thenR ?_
        refine E.retG2 rfl rfl rfl ?_
        have h8 : ((8 : Int) ≤ ↑p.held.length) = (8 ≤ p.held.length) := propext (by omega); (try simp only [ne_eq, Decidable.not_not, Int.natCast_inj, h8] at c0); (try simp only [ne_eq, Decidable.not_not, Int.natCast_inj, h8] at c1); (try simp only [ne_eq, Decidable.not_not, Int.natCast_inj, h8] at q6_3); exact ⟨by unfold mayP opensP keyP; simp [c0, c1, q6_3]; try omega, L4⟩
      · refine W.any (.dec (.move rfl) (decide_eq_false q6_3)) rfl rfl rfl ?_
        refine W.rdg (Any.rd (.field0 fa33_2 rfl) _) rfl rfl rfl (rfl) rfl rfl ?_
        refine W.rdg (.loadB (v := .int .i64 (x.am)) na3 rfl f5 rfl) rfl rfl rfl (rfl) rfl rfl ?_
        refine W.rdg (Any.rd (.gtr rfl rfl) _) rfl rfl rfl (rfl) rfl rfl ?_
        refine W.any (.pickF rfl rfl rfl) rfl rfl rfl ?_
        refine W.any (.assign rfl) rfl rfl rfl ?_
        refine W.nil ?_
        refine E.thenN ?_
        by_cases c2 : 1125899906842624 < x.am
        · refine WC.condY rfl (decide_eq_true c2) ?_
          refine WC.seq ?_
          refine WC.region ?_
          refine W.any (.assign rfl) rfl rfl rfl ?_
          refine W.any (.assign rfl) rfl rfl rfl ?_
          refine W.nil ?_
          refine E.thenN ?_
          refine WC.ret ?_
          refine E.blkR ?_
          refine E.thenR ?_
          refine E.retG2 rfl rfl rfl ?_
          have h8 : ((8 : Int) ≤ ↑p.held.length) = (8 ≤ p.held.length) := propext (by omega); (try simp only [ne_eq, Decidable.not_not, Int.natCast_inj, h8] at c0); (try simp only [ne_eq, Decidable.not_not, Int.natCast_inj, h8] at c1); (try simp only [ne_eq, Decidable.not_not, Int.natCast_inj, h8] at q6_3); (try simp only [ne_eq, Decidable.not_not, Int.natCast_inj, h8] at c2); exact ⟨by unfold mayP opensP keyP; simp [c0, c1, q6_3, c2]; try omega, L4⟩
        · refine WC.condN rfl (decide_eq_false c2) ?_
          refine WC.seq ?_
          refine WC.draw [0, 1, 2, 3, 4, 5, 6, 7] mixed (by kernel_rfl) ?_
          intro w8 d8
          have L6 := L4.trans d8
          refine G.any rfl rfl (.field0 fa33_3 rfl) rfl rfl rfl ?_
          have f7 := (f5.le d8)
          refine G.rd rfl rfl (.loadB (v := .int .i64 (x.ex)) na3 rfl f7 rfl) rfl rfl rfl ?_
          refine G.any rfl rfl (.move rfl) rfl rfl rfl ?_
          refine G.any rfl rfl (.nilCheck rfl) rfl rfl rfl ?_
          refine G.any rfl rfl (.field0 fa126_3 rfl) rfl rfl rfl ?_
          refine G.rd rfl rfl (.loadB (v := .int .i64 (p.lst)) na3 rfl (hq.le L6) rfl) rfl rfl rfl ?_
          refine G.any rfl rfl (.lss rfl rfl) rfl rfl rfl ?_
          refine G.any rfl rfl (.assign rfl) rfl rfl rfl ?_
          refine G.nil ?_
          refine E.thenN ?_
          by_cases c3 : x.ex < p.lst
          · refine WC.condY rfl (decide_eq_true c3) ?_
            refine WC.seq ?_
            refine WC.region ?_
            refine W.any (.assign rfl) rfl rfl rfl ?_
            refine W.any (.assign rfl) rfl rfl rfl ?_
            refine W.nil ?_
            refine E.thenN ?_
            refine WC.ret ?_
            refine E.blkR ?_
            refine E.thenR ?_
            refine E.retG2 rfl rfl rfl ?_
            have h8 : ((8 : Int) ≤ ↑p.held.length) = (8 ≤ p.held.length) := propext (by omega); (try simp only [ne_eq, Decidable.not_not, Int.natCast_inj, h8] at c0); (try simp only [ne_eq, Decidable.not_not, Int.natCast_inj, h8] at c1); (try simp only [ne_eq, Decidable.not_not, Int.natCast_inj, h8] at q6_3); (try simp only [ne_eq, Decidable.not_not, Int.natCast_inj, h8] at c2); (try simp only [ne_eq, Decidable.not_not, Int.natCast_inj, h8] at c3); exact ⟨by unfold mayP opensP keyP; simp [c0, c1, q6_3, c2, c3]; try omega, L6⟩
          · refine WC.condN rfl (decide_eq_false c3) ?_
            refine WC.seq ?_
            refine WC.draw [0, 1, 2, 3, 4, 5, 6, 7, 8, 9, 10] mixed (by kernel_rfl) ?_
            intro w10 d10
            have L8 := L6.trans d10
            refine G.any rfl rfl (.move rfl) rfl rfl rfl ?_
            refine G.any rfl rfl (.nilCheck rfl) rfl rfl rfl ?_
            refine G.any rfl rfl (.field0 fa117_1 rfl) rfl rfl rfl ?_
            refine G.rd rfl rfl (.loadB (v := .map (some gh)) na115 rfl (hp.le L8) rfl) rfl rfl rfl ?_
            refine G.any rfl rfl (.field0 fa33_0 rfl) rfl rfl rfl ?_
            have f9 := (f7.le d10)
            refine G.rd rfl rfl (.loadB (v := .int .i64 (x.ch)) na3 rfl f9 rfl) rfl rfl rfl ?_
            refine G.any rfl rfl (.field0 fa33_1 rfl) rfl rfl rfl ?_
            refine G.rd rfl rfl (.loadB (v := .int .i64 (x.id)) na3 rfl f9 rfl) rfl rfl rfl ?_
            refine G.any rfl rfl (.buildP (ckV (x.ch, x.id)) pl135 z135 rfl rfl) rfl rfl rfl ?_
            refine G.rd rfl rfl (.as (.lookup1 (key := (x.ch, x.id)) Try.underlying115 kcond z4 rfl rfl (hM.le L8)) (boolGet _)) rfl rfl rfl ?_
            refine G.any rfl rfl (.assign rfl) rfl rfl rfl ?_
            refine G.nil ?_
            refine E.thenN ?_
            by_cases c4 : (getG (x.ch, x.id) lh).getD false = true
            · refine WC.condY rfl (c4) ?_
              refine WC.seq ?_
              refine WC.region ?_
              refine W.any (.assign rfl) rfl rfl rfl ?_
              refine W.any (.assign rfl) rfl rfl rfl ?_
              refine W.nil ?_
              refine E.thenN ?_
              refine WC.ret ?_
              refine E.blkR ?_
              refine E.thenR ?_
              refine E.retG2 rfl rfl rfl ?_
              have h8 : ((8 : Int) ≤ ↑p.held.length) = (8 ≤ p.held.length) := propext (by omega); (try simp only [ne_eq, Decidable.not_not, Int.natCast_inj, h8] at c0); (try simp only [ne_eq, Decidable.not_not, Int.natCast_inj, h8] at c1); (try simp only [ne_eq, Decidable.not_not, Int.natCast_inj, h8] at q6_3); (try simp only [ne_eq, Decidable.not_not, Int.natCast_inj, h8] at c2); (try simp only [ne_eq, Decidable.not_not, Int.natCast_inj, h8] at c3); (try simp only [ne_eq, Decidable.not_not, Int.natCast_inj, h8] at c4); exact ⟨by unfold mayP opensP keyP; simp [c0, c1, q6_3, c2, c3, c4]; try omega, L8⟩
            · refine WC.condN rfl ((Bool.eq_false_iff.2 c4)) ?_
              refine WC.seq ?_
              refine WC.draw [0, 1, 2, 3, 4, 5, 6, 7, 8, 9, 10, 13, 14, 11, 12, 15, 16, 17] mixed (by kernel_rfl) ?_
              intro w12 d12
              have L10 := L8.trans d12
              refine G.any rfl rfl (.field0 fa33_5 rfl) rfl rfl rfl ?_
              have f11 := (f9.le d12)
              refine G.rd rfl rfl (.loadB (v := .int .u64 (((x.bl : Nat) : Int))) na30 rfl f11 rfl) rfl rfl rfl ?_
              refine G.ef rfl rfl rfl rfl rfl ?_
              refine Ef.call go60 rfl rfl (fright_ok x.bl w12) ?_
              rintro _ w12_2 ⟨rfl, h12_2⟩
              refine ⟨_, rfl, ?_⟩
              refine ⟨fun _ => h12_2, ?_⟩
              have L12 := L10.trans h12_2
              refine G.any rfl rfl (.not rfl) rfl rfl rfl ?_
              by_cases q12_4 : x.bl < q
              · refine G.any rfl rfl (.dec (.move rfl) (congrArg not (decide_eq_true q12_4))) rfl rfl rfl ?_
                refine G.anyg rfl rfl (.move rfl) rfl rfl rfl (rfl) rfl rfl ?_
                refine G.anyg rfl rfl (.nilCheck rfl) rfl rfl rfl (rfl) rfl rfl ?_
                refine G.anyg rfl rfl (.field0 fa126_0 rfl) rfl rfl rfl (rfl) rfl rfl ?_
                refine G.rdg rfl rfl (.loadB (v := .int .u64 (((p.sec : Nat) : Int))) na30 rfl (hq.le L12) rfl) rfl rfl rfl (rfl) rfl rfl ?_
                refine G.anyg rfl rfl (.field0 fa33_5 rfl) rfl rfl rfl (rfl) rfl rfl ?_
                have f13 := (f11.le h12_2)
                refine G.rdg rfl rfl (.loadB (v := .int .u64 (((x.bl : Nat) : Int))) na30 rfl f13 rfl) rfl rfl rfl (rfl) rfl rfl ?_
                refine G.anyg rfl rfl (.field0 fa33_4 rfl) rfl rfl rfl (rfl) rfl rfl ?_
                refine G.rdg rfl rfl (.loadB (v := .int .u64 (((x.pt : Nat) : Int))) na31 rfl f13 rfl) rfl rfl rfl (rfl) rfl rfl ?_
                refine G.efg rfl rfl rfl rfl rfl (rfl) rfl rfl ?_
                refine Ef.call go55 rfl rfl (fadd_ok p.sec x.bl w12_2) ?_
                rintro _ w12_11 ⟨rfl, h12_11⟩
                refine ⟨_, rfl, ?_⟩
                refine ⟨fun _ => h12_11, ?_⟩
                have L14 := L12.trans h12_11
                refine G.efg rfl rfl rfl rfl rfl (rfl) rfl rfl ?_
                refine Ef.call go49 rfl rfl (base_ok (addS p.sec x.bl) w12_11) ?_
                rintro _ w12_12 ⟨rfl, h12_12⟩
                refine ⟨_, rfl, ?_⟩
                refine ⟨fun _ => h12_12, ?_⟩
                have L15 := L14.trans h12_12
                refine G.anyg rfl rfl (.neq rfl rfl) rfl rfl rfl (rfl) rfl rfl ?_
                refine G.any rfl rfl (.pickF rfl rfl rfl) rfl rfl rfl ?_
                refine G.any rfl rfl (.assign rfl) rfl rfl rfl ?_
                refine G.nil ?_
                refine E.thenN ?_
                by_cases c5 : ((base (addS p.sec x.bl) : Nat) : Int) ≠ ((x.pt : Nat) : Int)
                · refine WC.condY rfl (decide_eq_true c5) ?_
                  refine WC.seq ?_
                  refine WC.region ?_
                  refine W.any (.assign rfl) rfl rfl rfl ?_
                  refine W.any (.assign rfl) rfl rfl rfl ?_
                  refine W.nil ?_
                  refine E.thenN ?_
                  refine WC.ret ?_
                  refine E.blkR ?_
                  refine E.thenR ?_
                  refine E.retG2 rfl rfl rfl ?_
                  have h8 : ((8 : Int) ≤ ↑p.held.length) = (8 ≤ p.held.length) := propext (by omega); (try simp only [ne_eq, Decidable.not_not, Int.natCast_inj, h8] at c0); (try simp only [ne_eq, Decidable.not_not, Int.natCast_inj, h8] at c1); (try simp only [ne_eq, Decidable.not_not, Int.natCast_inj, h8] at q6_3); (try simp only [ne_eq, Decidable.not_not, Int.natCast_inj, h8] at c2); (try simp only [ne_eq, Decidable.not_not, Int.natCast_inj, h8] at c3); (try simp only [ne_eq, Decidable.not_not, Int.natCast_inj, h8] at c4); (try simp only [ne_eq, Decidable.not_not, Int.natCast_inj, h8] at q12_4); (try simp only [ne_eq, Decidable.not_not, Int.natCast_inj, h8] at c5); exact ⟨by unfold mayP opensP keyP; simp [c0, c1, q6_3, c2, c3, c4, q12_4, c5]; try omega, L15⟩
                · refine WC.condN rfl (decide_eq_false c5) ?_
                  refine WC.seq ?_
                  refine WC.region ?_
                  refine W.any (.move rfl) rfl rfl rfl ?_
                  refine W.any (.nilCheck rfl) rfl rfl rfl ?_
                  refine W.any (.field0 fa126_4 rfl) rfl rfl rfl ?_
                  refine W.rd (.loadB (v := .slice Aq p.held.length cq) na46 rfl (hq.le L15) rfl) rfl rfl rfl ?_
                  refine W.rd (.len Try.underlying46 rfl) rfl rfl rfl ?_
                  refine W.any (.geq rfl rfl) rfl rfl rfl ?_
                  refine W.any (.assign rfl) rfl rfl rfl ?_
                  refine W.nil ?_
                  refine E.thenN ?_
                  by_cases c6 : 8 ≤ ((p.held.length : Nat) : Int)
                  · refine WC.condY rfl (decide_eq_true c6) ?_
                    refine WC.seq ?_
                    refine WC.region ?_
                    refine W.any (.assign rfl) rfl rfl rfl ?_
                    refine W.any (.assign rfl) rfl rfl rfl ?_
                    refine W.nil ?_
                    refine E.thenN ?_
                    refine WC.ret ?_
                    refine E.blkR ?_
                    refine E.thenR ?_
                    refine E.retG2 rfl rfl rfl ?_
                    have h8 : ((8 : Int) ≤ ↑p.held.length) = (8 ≤ p.held.length) := propext (by omega); (try simp only [ne_eq, Decidable.not_not, Int.natCast_inj, h8] at c0); (try simp only [ne_eq, Decidable.not_not, Int.natCast_inj, h8] at c1); (try simp only [ne_eq, Decidable.not_not, Int.natCast_inj, h8] at q6_3); (try simp only [ne_eq, Decidable.not_not, Int.natCast_inj, h8] at c2); (try simp only [ne_eq, Decidable.not_not, Int.natCast_inj, h8] at c3); (try simp only [ne_eq, Decidable.not_not, Int.natCast_inj, h8] at c4); (try simp only [ne_eq, Decidable.not_not, Int.natCast_inj, h8] at q12_4); (try simp only [ne_eq, Decidable.not_not, Int.natCast_inj, h8] at c5); (try simp only [ne_eq, Decidable.not_not, Int.natCast_inj, h8] at c6); exact ⟨by unfold mayP opensP keyP; simp [c0, c1, q6_3, c2, c3, c4, q12_4, c5, c6]; try omega, L15⟩
                  · refine WC.condN rfl (decide_eq_false c6) ?_
                    refine WC.seq ?_
                    refine WC.region ?_
                    refine W.any (.move rfl) rfl rfl rfl ?_
                    refine W.any (.not rfl) rfl rfl rfl ?_
                    refine W.any (.assign rfl) rfl rfl rfl ?_
                    refine W.nil ?_
                    refine E.thenN ?_
                    by_cases c7 : (addC p.sum x.am).2 = true
                    · refine WC.condN rfl (congrArg not (c7)) ?_
                      refine WC.skip ?_
                      refine E.blkN ?_
                      refine E.thenN ?_
                      refine WC.seq ?_
                      refine WC.region ?_
                      refine W.any (.move rfl) rfl rfl rfl ?_
                      refine W.any (.assign rfl) rfl rfl rfl ?_
                      refine W.any (.assign rfl) rfl rfl rfl ?_
                      refine W.nil ?_
                      refine E.thenN ?_
                      refine WC.ret ?_
                      refine E.retG2 rfl rfl rfl ?_
                      have h8 : ((8 : Int) ≤ ↑p.held.length) = (8 ≤ p.held.length) := propext (by omega); (try simp only [ne_eq, Decidable.not_not, Int.natCast_inj, h8] at c0); (try simp only [ne_eq, Decidable.not_not, Int.natCast_inj, h8] at c1); (try simp only [ne_eq, Decidable.not_not, Int.natCast_inj, h8] at q6_3); (try simp only [ne_eq, Decidable.not_not, Int.natCast_inj, h8] at c2); (try simp only [ne_eq, Decidable.not_not, Int.natCast_inj, h8] at c3); (try simp only [ne_eq, Decidable.not_not, Int.natCast_inj, h8] at c4); (try simp only [ne_eq, Decidable.not_not, Int.natCast_inj, h8] at q12_4); (try simp only [ne_eq, Decidable.not_not, Int.natCast_inj, h8] at c5); (try simp only [ne_eq, Decidable.not_not, Int.natCast_inj, h8] at c6); (try simp only [ne_eq, Decidable.not_not, Int.natCast_inj, h8] at c7); exact ⟨by unfold mayP opensP keyP; simp [c0, c1, q6_3, c2, c3, c4, q12_4, c5, c6, c7]; try omega, L15⟩
                    · refine WC.condY rfl (congrArg not ((Bool.eq_false_iff.2 c7))) ?_
                      refine WC.seq ?_
                      refine WC.region ?_
                      refine W.any (.assign rfl) rfl rfl rfl ?_
                      refine W.any (.assign rfl) rfl rfl rfl ?_
                      refine W.nil ?_
                      refine E.thenN ?_
                      refine WC.ret ?_
                      refine E.blkR ?_
                      refine E.thenR ?_
                      refine E.retG2 rfl rfl rfl ?_
                      have h8 : ((8 : Int) ≤ ↑p.held.length) = (8 ≤ p.held.length) := propext (by omega); (try simp only [ne_eq, Decidable.not_not, Int.natCast_inj, h8] at c0); (try simp only [ne_eq, Decidable.not_not, Int.natCast_inj, h8] at c1); (try simp only [ne_eq, Decidable.not_not, Int.natCast_inj, h8] at q6_3); (try simp only [ne_eq, Decidable.not_not, Int.natCast_inj, h8] at c2); (try simp only [ne_eq, Decidable.not_not, Int.natCast_inj, h8] at c3); (try simp only [ne_eq, Decidable.not_not, Int.natCast_inj, h8] at c4); (try simp only [ne_eq, Decidable.not_not, Int.natCast_inj, h8] at q12_4); (try simp only [ne_eq, Decidable.not_not, Int.natCast_inj, h8] at c5); (try simp only [ne_eq, Decidable.not_not, Int.natCast_inj, h8] at c6); (try simp only [ne_eq, Decidable.not_not, Int.natCast_inj, h8] at c7); exact ⟨by unfold mayP opensP keyP; simp [c0, c1, q6_3, c2, c3, c4, q12_4, c5, c6, c7]; try omega, L15⟩
              · refine G.any rfl rfl (.dec (.move rfl) (congrArg not (decide_eq_false q12_4))) rfl rfl rfl ?_
                refine G.skip rfl rfl rfl rfl (rfl) rfl rfl ?_
                refine G.skip rfl rfl rfl rfl (rfl) rfl rfl ?_
                refine G.skip rfl rfl rfl rfl (rfl) rfl rfl ?_
                refine G.skip rfl rfl rfl rfl (rfl) rfl rfl ?_
                refine G.skip rfl rfl rfl rfl (rfl) rfl rfl ?_
                refine G.skip rfl rfl rfl rfl (rfl) rfl rfl ?_
                refine G.skip rfl rfl rfl rfl (rfl) rfl rfl ?_
                refine G.skip rfl rfl rfl rfl (rfl) rfl rfl ?_
                refine G.skip rfl rfl rfl rfl (rfl) rfl rfl ?_
                refine G.skip rfl rfl rfl rfl (rfl) rfl rfl ?_
                refine G.skip rfl rfl rfl rfl (rfl) rfl rfl ?_
                refine G.any rfl rfl (.pickT rfl rfl rfl) rfl rfl rfl ?_
                refine G.any rfl rfl (.assign rfl) rfl rfl rfl ?_
                refine G.nil ?_
                refine E.thenN ?_
                refine WC.condT rfl ?_
                refine WC.seq ?_
                refine WC.region ?_
                refine W.any (.assign rfl) rfl rfl rfl ?_
                refine W.any (.assign rfl) rfl rfl rfl ?_
                refine W.nil ?_
                refine E.thenN ?_
                refine WC.ret ?_
                refine E.blkR ?_
                refine E.thenR ?_
                refine E.retG2 rfl rfl rfl ?_
                have h8 : ((8 : Int) ≤ ↑p.held.length) = (8 ≤ p.held.length) := propext (by omega); (try simp only [ne_eq, Decidable.not_not, Int.natCast_inj, h8] at c0); (try simp only [ne_eq, Decidable.not_not, Int.natCast_inj, h8] at c1); (try simp only [ne_eq, Decidable.not_not, Int.natCast_inj, h8] at q6_3); (try simp only [ne_eq, Decidable.not_not, Int.natCast_inj, h8] at c2); (try simp only [ne_eq, Decidable.not_not, Int.natCast_inj, h8] at c3); (try simp only [ne_eq, Decidable.not_not, Int.natCast_inj, h8] at c4); (try simp only [ne_eq, Decidable.not_not, Int.natCast_inj, h8] at q12_4); exact ⟨by unfold mayP opensP keyP; simp [c0, c1, q6_3, c2, c3, c4, q12_4]; try omega, L12⟩

theorem clear_ok {gp ga gh gq nq cq ck : Nat} {Aq : Option Addr} {lh : List (Nat × (Int × Int) × Bool)} (p : Pay) (w : World) (hp : Blk w gp 117 #[.map (some ga), .map (some gh)]) (hq : Blk w gq 126 #[.int .u64 (((p.sec : Nat) : Int)), .int .i64 (p.tot), .int .i64 (p.by_), .int .i64 (p.lst), .slice Aq nq cq, .int .i64 (p.sum), .bool (p.ovr), .bool (p.paid)]) (hM : MapG w ckf Value.bool gh lh ck) (hO : OVec w 0 33 partV 6 Aq nq cq p.held) (hhl : nq ≤ 1000000) (n1 : gp ≠ gq) (n2 : gp ≠ gh) (n3 : gq ≠ gh) (n4 : rowOf Aq cq ≠ some gh) (n5 : rowOf Aq cq ≠ some gq) : Calls Try.prog 65 #[.pointer (some ⟨gp, 0, none⟩), .pointer (some ⟨gq, 0, none⟩)] w fun r w' => r = .returned (.slice Aq nq cq) ∧ Blk w' gq 126 #[.int .u64 (((p.sec : Nat) : Int)), .int .i64 (p.tot), .int .i64 (p.by_), .int .i64 (p.lst), .slice none 0 0, .int .i64 (p.sum), .bool true, .bool (p.paid)] ∧ MapG w' ckf Value.bool gh (delK p.held lh) ck ∧ ChP w w' (fun k => k = gq ∨ k = gh) := by
  refine enter Try.func65 rfl rfl ?_
  have L0 := ChP.refl w (fun k => k = gq ∨ k = gh)
  refine WC.seq ?_
  refine WC.region ?_
  refine W.any (.assign rfl) rfl rfl rfl ?_
  refine W.nil ?_
  refine E.thenN ?_
  refine WC.seq ?_
  refine WC.seq ?_
  refine WC.region ?_
  refine W.any (.move rfl) rfl rfl rfl ?_
  refine W.any (.nilCheck rfl) rfl rfl rfl ?_
  refine W.any (.field0 fa126_4 rfl) rfl rfl rfl ?_
  refine W.rd (.loadB (v := .slice Aq nq cq) na46 rfl hq rfl) rfl rfl rfl ?_
  refine W.rd (.len Try.underlying46 rfl) rfl rfl rfl ?_
  refine W.any (.move rfl) rfl rfl rfl ?_
  refine W.nil ?_
  refine E.thenN ?_
  refine WC.block ?_
  refine WC.loop (ι := Nat) (fun k => [(0, .pointer (some ⟨gp, 0, none⟩)), (1, .pointer (some ⟨gq, 0, none⟩)), (10, .slice Aq nq cq), (11, .int .i64 (((nq : Nat) : Int))), (12, .int .i64 (((k : Nat) : Int)))]) (fun k wl0 => (k ≤ nq) ∧ ChP w wl0 (fun k => k = gq ∨ k = gh) ∧ w.heap.size ≤ wl0.heap.size ∧ Blk wl0 gp 117 #[.map (some ga), .map (some gh)] ∧ MapG wl0 ckf Value.bool gh (delK (p.held.take k) lh) ck ∧ Blk wl0 gq 126 #[.int .u64 (((p.sec : Nat) : Int)), .int .i64 (p.tot), .int .i64 (p.by_), .int .i64 (p.lst), .slice Aq nq cq, .int .i64 (p.sum), .bool (p.ovr), .bool (p.paid)] ∧ OVec wl0 0 33 partV 6 Aq nq cq p.held) (fun k => nq - k) 0 ?_ ?_ ?_
  · exact .cons rfl (.cons rfl (.cons rfl (.cons rfl (.cons rfl (.nil _)))))
  · exact ⟨by omega, L0, Nat.le_refl _, hp, (by rw [List.take_zero, delK_nil]; exact hM), hq, hO⟩
  · rintro k wl0 ⟨hk, Ll0, sz0, f0_0, f0_1, f0_2, f0_3⟩
    have hOl := hO.1
    refine WC.seq ?_
    refine WC.region ?_
    refine W.any (.lss rfl rfl) rfl rfl rfl ?_
    refine W.nil ?_
    refine E.thenN ?_
    refine WC.seq ?_
    by_cases c0 : ((k : Nat) : Int) < ((nq : Nat) : Int)
    · refine WC.condY rfl (decide_eq_true c0) ?_
      refine WC.skip ?_
      refine E.thenN ?_
      refine WC.seq ?_
      refine WC.block ?_
      refine WC.seq ?_
      refine WC.region ?_
      refine W.any (.idxS (k) Try.underlying46 sz33 rfl rfl (hO.vec.isSome partV_row (by omega)) (rfl) (by omega)) rfl rfl rfl ?_
      refine W.rd (.vload ag33 rfl f0_3.vec partV_row (getS p.held noPart (by first | omega | (simp only [List.length_cons, List.length_nil]; omega)))) rfl rfl rfl ?_
      refine W.ef rfl rfl rfl ?_
      refine Ef.allocA z33 ?_
      intro g3_2 w3_2 hg3_2 b3_2 h3_2
      have L1 := Ll0.le h3_2
      have b3_2 : Blk w3_2 g3_2 33 (partV noPart).toArray := b3_2
      refine W.ef0 rfl rfl ?_
      refine Ef.storeAll sz33 (by rfl) rfl rfl b3_2 (by rfl) (partV_row.one (p.held.getD k noPart)) ?_
      intro w3_3 b3_3 h3_3
      have b3_3 : Blk w3_3 g3_2 33 (partV (p.held.getD k noPart)).toArray := b3_3
      have L2 : ChP w w3_3 (fun k => k = gq ∨ k = gh) := L1.ch h3_3 (fun i hi hlt => by cases hi; exact absurd hlt (by have := Ll0.size; have := hg3_2; omega))
      refine W.nil ?_
      refine E.thenN ?_
      refine WC.draw [0, 1, 2, 3, 4, 5, 6, 7, 8, 9] mixed (by kernel_rfl) ?_
      intro w4 d4
      have L3 := L2.le d4
      refine G.any rfl rfl (.move rfl) rfl rfl rfl ?_
      refine G.any rfl rfl (.nilCheck rfl) rfl rfl rfl ?_
      refine G.any rfl rfl (.field0 fa117_1 rfl) rfl rfl rfl ?_
      have f4 := (((f0_0.le h3_2).ch h3_3 (fun h => (show g3_2 ≠ gp from by have := f0_0.lt; omega) (Option.some.inj h))).le d4)
      refine G.rd rfl rfl (.loadB (v := .map (some gh)) na115 rfl f4 rfl) rfl rfl rfl ?_
      refine G.any rfl rfl (.field0 fa33_0 rfl) rfl rfl rfl ?_
      have f5 := (b3_3.le d4)
      refine G.rd rfl rfl (.loadB (v := .int .i64 ((p.held.getD k noPart).ch)) na3 rfl f5 rfl) rfl rfl rfl ?_
      refine G.any rfl rfl (.field0 fa33_1 rfl) rfl rfl rfl ?_
      refine G.rd rfl rfl (.loadB (v := .int .i64 ((p.held.getD k noPart).id)) na3 rfl f5 rfl) rfl rfl rfl ?_
      refine G.any rfl rfl (.buildP (ckV ((p.held.getD k noPart).ch, (p.held.getD k noPart).id)) pl135 z135 rfl rfl) rfl rfl rfl ?_
      have f6 := (((f0_1.le h3_2).ch h3_3 (fun h => (show g3_2 ≠ gh from by have := f0_1.lt; omega) (Option.some.inj h))).le d4)
      refine G.ef0 rfl rfl rfl rfl ?_
      refine Ef.deleteG (key := ((p.held.getD k noPart).ch, (p.held.getD k noPart).id)) Try.underlying115 kcond rfl rfl f6 ?_
      intro w4_9 b4_9 h4_9
      refine ⟨fun h => absurd h (ne_true_of_eq_false (by kernel_rfl)), ?_⟩
      have L7 : ChP w w4_9 (fun k => k = gq ∨ k = gh) := L3.ch h4_9 (fun i hi _ => by cases hi; exact Or.inr rfl)
      refine G.nil ?_
      refine E.blkN ?_
      refine E.thenN ?_
      refine WC.region ?_
      refine W.any (.add rfl rfl (by omega)) rfl rfl rfl ?_
      refine W.any (.move rfl) rfl rfl rfl ?_
      refine W.nil ?_
      have f8 := (f4.ch h4_9 (fun h => (Ne.symm n2) (Option.some.inj h)))
      have f9 := ((((f0_2.le h3_2).ch h3_3 (fun h => (show g3_2 ≠ gq from by have := f0_2.lt; omega) (Option.some.inj h))).le d4).ch h4_9 (fun h => (Ne.symm n3) (Option.some.inj h)))
      have f10 := ((((f0_3.le h3_2).ch h3_3 (fun q hq => by cases hq; exact (fun he => by have := (f0_3.row he).2; omega))).le d4).ch h4_9 (fun q hq => by cases hq; exact n4))
      refine E.again (k + 1) (.cons rfl (.cons rfl (.cons rfl (.cons rfl (.cons rfl (.nil _)))))) ?_ ?_
      · exact ⟨by omega, L7, by have := sz0; have := h3_2.size; have := h3_3.size; have := d4.size; have := h4_9.size; omega, f8, (by rw [← delK_snoc p.held k (by have := hO.1; omega)]; exact b4_9), f9, f10⟩
      · first | omega | (simp only []; omega)
    · refine WC.condN rfl (decide_eq_false c0) ?_
      refine WC.exit ?_
      refine E.thenX ?_
      refine E.thenX ?_
      refine E.blkH ?_
      refine E.thenN ?_
      refine WC.seq ?_
      refine WC.region ?_
      refine W.any (.move rfl) rfl rfl rfl ?_
      refine W.any (.move rfl) rfl rfl rfl ?_
      refine W.any (.move rfl) rfl rfl rfl ?_
      refine W.any (.nilCheck rfl) rfl rfl rfl ?_
      refine W.any (.field0 fa126_4 rfl) rfl rfl rfl ?_
      refine W.rd (.loadB (v := .slice Aq nq cq) na46 rfl f0_2 rfl) rfl rfl rfl ?_
      refine W.any (.assign rfl) rfl rfl rfl ?_
      refine W.any (.nilCheck rfl) rfl rfl rfl ?_
      refine W.any (.field0 fa126_4 rfl) rfl rfl rfl ?_
      refine W.ef0 rfl rfl ?_
      refine Ef.store sz46 rfl rfl f0_2 (by first | decide | simp) (rfl) ?_
      intro w6_9 b6_9 h6_9
      have b6_9 : Blk w6_9 gq 126 #[.int .u64 (((p.sec : Nat) : Int)), .int .i64 (p.tot), .int .i64 (p.by_), .int .i64 (p.lst), .slice none 0 0, .int .i64 (p.sum), .bool (p.ovr), .bool (p.paid)] := b6_9
      have L11 : ChP w w6_9 (fun k => k = gq ∨ k = gh) := Ll0.ch h6_9 (fun i hi _ => by cases hi; exact Or.inl rfl)
      refine W.any (.nilCheck rfl) rfl rfl rfl ?_
      refine W.any (.field0 fa126_6 rfl) rfl rfl rfl ?_
      refine W.ef0 rfl rfl ?_
      refine Ef.store sz4 rfl rfl b6_9 (by first | decide | simp) (rfl) ?_
      intro w6_12 b6_12 h6_12
      have b6_12 : Blk w6_12 gq 126 #[.int .u64 (((p.sec : Nat) : Int)), .int .i64 (p.tot), .int .i64 (p.by_), .int .i64 (p.lst), .slice none 0 0, .int .i64 (p.sum), .bool true, .bool (p.paid)] := b6_12
      have L12 : ChP w w6_12 (fun k => k = gq ∨ k = gh) := L11.ch h6_12 (fun i hi _ => by cases hi; exact Or.inl rfl)
      refine W.nil ?_
      refine E.thenN ?_
      refine WC.seq ?_
      refine WC.region ?_
      refine W.any (.move rfl) rfl rfl rfl ?_
      refine W.any (.assign rfl) rfl rfl rfl ?_
      refine W.nil ?_
      refine E.thenN ?_
      refine WC.ret ?_
      have f13 := ((f0_1.ch h6_9 (fun h => n3 (Option.some.inj h))).ch h6_12 (fun h => n3 (Option.some.inj h)))
      refine E.retG1 rfl rfl ?_
      exact ⟨rfl, b6_12, (by have hk2 := hO.1; have e := f13; rw [List.take_of_length_le (by omega)] at e; exact e), L12⟩
end Go.Proofs.Ytfgakofjkldcjaa

