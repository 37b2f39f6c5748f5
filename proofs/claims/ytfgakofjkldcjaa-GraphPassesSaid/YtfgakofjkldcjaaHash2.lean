/- slices.Clone at bytes, and the hash's outer functions, walked. -/
import Derived.Test.YtfgakofjkldcjaaHash
namespace Go.Proofs.Ytfgakofjkldcjaa
open Go Go.Sx Go.Hsp
set_option maxRecDepth 20000
theorem clone_ok {A : Option Addr} {n c : Nat} {xs : List Byte} (w : World) (hS : Sb w A n xs) (hn : n ≤ 70368744177664) : Calls Try.prog 125 #[.slice A n c] w fun e w' => ∃ A' c', e = .returned (.slice A' n c') ∧ Own w' w.heap.size 5 1 A' n c' (xs.map u8v) ∧ Le w w' := by
  refine enter Try.func125 rfl rfl ?_
  have L0 := Le.refl w
  refine WC.seq ?_
  refine WC.region ?_
  refine W.any (.assign rfl) rfl rfl rfl ?_
  refine W.nil ?_
  refine E.thenN ?_
  refine WC.seq ?_
  refine WC.seq ?_
  refine WC.region ?_
  refine W.any (.move rfl) rfl rfl rfl ?_
  refine W.any (.isNil Try.underlying107 rfl) rfl rfl rfl ?_
  refine W.nil ?_
  refine E.thenN ?_
  refine WC.condB rfl (fun c0 => ?_) (fun c0 => ?_)
  · have hA : A = none := by simpa using c0
    subst hA
    have hl := hS.len
    have hx : xs = [] := by cases xs with | nil => rfl | cons x xs => exact absurd (hS.isSome (by rw [← hl]; simp)) (by simp)
    subst hx
    have hn0 : n = 0 := by simpa using hl.symm
    subst hn0
    refine WC.seq ?_
    refine WC.region ?_
    refine W.any (.assign rfl) rfl rfl rfl ?_
    refine W.nil ?_
    refine E.thenN ?_
    refine WC.ret ?_
    refine E.thenR ?_
    refine E.ret1 rfl rfl ?_
    exact ⟨none, 0, rfl, Own.empty _ _ _ _ _, L0⟩
  · refine WC.skip ?_
    refine E.thenN ?_
    refine WC.seq ?_
    refine WC.region ?_
    refine W.ef rfl rfl rfl ?_
    refine Ef.buildSlice0 Try.underlying107 el5 ?_
    intro g3_0 w3_0 hg3_0 b3_0 h3_0
    have L3_0 := L0.trans h3_0
    refine W.any (.move rfl) rfl rfl rfl ?_
    refine W.ef rfl rfl rfl ?_
    refine Ef.append Try.underlying107 el5 rfl (Own.empty w3_0 w.heap.size 5 1 _) rfl ((hS.le L3_0).src Try.underlying107 _) (by omega) (by unfold maxLen; omega) (L3_0.size) ?_
    intro A3_2 c3_2 w3_2 o3_2 h3_2 at3_2
    have L3_2 : Le w w3_2 := L3_0.then_ h3_2 (fun q hq => by rw [rowOf_zero] at hq; cases hq)
    refine W.any (.assign rfl) rfl rfl rfl ?_
    refine W.nil ?_
    refine E.thenN ?_
    refine WC.ret ?_
    refine E.ret1 rfl rfl ?_
    exact ⟨A3_2, c3_2, by rw [Nat.zero_add], o3_2.cast (Nat.zero_add n) (List.nil_append _), L3_2⟩

theorem long_ok {A : Option Addr} {n c base : Nat} {xs : List Byte} (m : Nat) (w : World) (hO : Own w base 5 1 A n c (xs.map u8v)) (_hm : m ≤ 9223372036854775807) (hn : n ≤ 70368744177664) (hb : base ≤ w.heap.size) : Calls Try.prog 126 #[.slice A n c, .int .i64 (m : Int)] w fun e w' => ∃ A' c', e = .returned (.slice A' (n + 8) c') ∧ Own w' base 5 1 A' (n + 8) c' ((xs ++ be8 m).map u8v) ∧ Ch w w' (rowOf A c) ∧ At w A c A' c' := by
  refine enter Try.func126 rfl rfl ?_
  have L0 := Le.refl w
  refine WC.seq ?_
  refine WC.region ?_
  refine W.any (.assign rfl) rfl rfl rfl ?_
  refine W.nil ?_
  refine E.thenN ?_
  refine WC.seq ?_
  refine WC.seq ?_
  refine WC.region ?_
  refine W.any (.assign rfl) rfl rfl rfl ?_
  refine W.nil ?_
  refine E.thenN ?_
  refine WC.block ?_
  refine WC.loop (ι := Nat × Option Addr × Nat) (fun ⟨k, A1, c1⟩ => [(0, .slice A1 (n + k) c1), (1, .int .i64 (m : Int)), (5, .int .i64 (56 - 8 * (k : Int)))]) (fun ⟨k, A1, c1⟩ wl => k ≤ 8 ∧ Own wl base 5 1 A1 (n + k) c1 ((xs ++ be8To m k).map u8v) ∧ Ch w wl (rowOf A c) ∧ At w A c A1 c1) (fun ⟨k, A1, c1⟩ => 8 - k) (0, A, c) ?_ ?_ ?_
  · exact .cons rfl (.cons rfl (.cons rfl (.nil _)))
  · exact ⟨by omega, hO.cast rfl (by simp [be8To]), Ch.refl _ _, At.refl _ _ _⟩
  · rintro ⟨k, A1, c1⟩ wl ⟨hk, ol, chl, atl⟩
    refine WC.seq ?_
    refine WC.seq ?_
    refine WC.region ?_
    refine W.any (.move rfl) rfl rfl rfl ?_
    refine W.any (.geq rfl rfl) rfl rfl rfl ?_
    refine W.nil ?_
    refine E.thenN ?_
    refine WC.cond rfl (fun c0 => ?_) (fun c0 => ?_)
    · refine WC.skip ?_
      refine E.thenN ?_
      refine WC.seq ?_
      refine WC.block ?_
      refine WC.region ?_
      refine W.any (.move rfl) rfl rfl rfl ?_
      refine W.any (.move rfl) rfl rfl rfl ?_
      refine W.any (.move rfl) rfl rfl rfl ?_
      refine W.any (.shrN m (56 - 8 * k) rfl rfl rfl (by omega) (by show 56 - 8 * k ≤ 64; omega)) rfl rfl rfl ?_
      refine W.rd (.toU8 (m >>> (56 - 8 * k)) (isS Try.underlying3) Try.underlying5 rfl rfl) rfl rfl rfl ?_
      refine W.ef rfl rfl rfl ?_
      refine Ef.buildSlice1 Try.underlying107 el5 rfl rfl ?_
      intro g4_5 w4_5 hg4_5 b4_5 h4_5
      refine W.ef rfl rfl rfl ?_
      refine Ef.append Try.underlying107 el5 rfl (ol.le h4_5) rfl (b4_5.src1 Try.underlying107 rfl) (by omega) (by unfold maxLen; omega) (Nat.le_trans hb (Nat.le_trans chl.size h4_5.size)) ?_
      intro A4_6 c4_6 w4_6 o4_6 h4_6 at4_6
      refine W.any (.assign rfl) rfl rfl rfl ?_
      refine W.nil ?_
      refine E.blkN ?_
      refine E.thenN ?_
      refine WC.region ?_
      refine W.any (.move rfl) rfl rfl rfl ?_
      refine W.any (.sub rfl rfl (by omega)) rfl rfl rfl ?_
      refine W.any (.assign rfl) rfl rfl rfl ?_
      refine W.nil ?_
      refine E.again (k + 1, A4_6, c4_6) (.cons rfl (.cons rfl (.cons' rfl (int_eq (by omega)) (.nil _)))) ?_ ?_
      · exact ⟨by omega, o4_6.cast rfl (by rw [be8To_succ m k (by omega)]; simp), (chl.trans (h4_5.ch _)).then_ h4_6 (fun q hq => (atl q hq).symm), atl.trans (Nat.le_trans chl.size h4_5.size) at4_6⟩
      · first | omega | (simp only []; omega)
    · have hk8 : k = 8 := by omega
      subst hk8
      refine WC.exit ?_
      refine E.thenX ?_
      refine E.thenX ?_
      refine E.blkH ?_
      refine E.thenN ?_
      refine WC.seq ?_
      refine WC.region ?_
      refine W.any (.move rfl) rfl rfl rfl ?_
      refine W.any (.assign rfl) rfl rfl rfl ?_
      refine W.nil ?_
      refine E.thenN ?_
      refine WC.ret ?_
      refine E.ret1 rfl rfl ?_
      exact ⟨A1, c1, rfl, ol, chl, atl⟩

set_option maxHeartbeats 1000000 in
theorem sum_ok {A : Option Addr} {n c : Nat} {xs : List Byte} (w : World) (hS : Sb w A n xs) (hn : n ≤ 35184372088832) (hc : n ≤ c) : Calls Try.prog 73 #[.slice A n c] w fun e w' => e = .returned (.agg ((sum xs).map u8v).toArray) ∧ Le w w' := by
  have hl := hS.len
  refine enter Try.func73 rfl rfl ?_
  have L0 := Le.refl w
  refine WC.seq ?_
  refine WC.region ?_
  refine W.ef rfl rfl rfl ?_
  refine Ef.allocA z89 ?_
  intro g0_0 w0_0 hg0_0 b0_0 h0_0
  have L0_0 := L0.trans h0_0
  have b0 : Blk w0_0 g0_0 89 ((List.replicate 32 0#8).map u8v).toArray := b0_0
  refine W.nil ?_
  refine E.thenN ?_
  refine WC.seq ?_
  refine WC.region ?_
  refine W.any (.move rfl) rfl rfl rfl ?_
  refine W.any (.move rfl) rfl rfl rfl ?_
  refine W.rd (.len Try.underlying107 rfl) rfl rfl rfl ?_
  refine W.any (.move rfl) rfl rfl rfl ?_
  refine W.rd (.len Try.underlying107 rfl) rfl rfl rfl ?_
  refine W.any (.rem rfl rfl (by omega)) rfl rfl rfl ?_
  refine W.any (.sub rfl rfl (by omega)) rfl rfl rfl ?_
  refine W.any (.cutL (n - n % 64) Try.underlying107 sz5 rfl rfl (by omega) (by omega) (by omega)) rfl rfl rfl ?_
  refine W.ef rfl rfl rfl ?_
  refine Ef.call go125 rfl rfl (clone_ok w0_0 ((hS.le L0_0).cutL c (n - n % 64) (by omega) hc) (by omega)) ?_
  rintro _ w1_8 ⟨A1, c1, rfl, o1, h1_8⟩
  refine ⟨_, rfl, ?_⟩
  have L1_8 := L0_0.trans h1_8
  have o1b := o1
  have o1 := o1.mono L0_0.size
  refine W.ef rfl rfl rfl ?_
  refine Ef.buildSlice1 Try.underlying107 el5 rfl rfl ?_
  intro g1_9 w1_9 hg1_9 b1_9 h1_9
  have L1_9 := L1_8.trans h1_9
  refine W.ef rfl rfl rfl ?_
  refine Ef.append Try.underlying107 el5 rfl (o1.le h1_9) rfl (b1_9.src1 Try.underlying107 rfl) (by omega) (by unfold maxLen; omega) (L1_9.size) ?_
  intro A1_10 c1_10 w1_10 o1_10 h1_10 at1_10
  have L1_10 : Le w w1_10 := L1_9.then_ h1_10 (fun q hq => (o1.row hq).1)
  have ne0 : rowOf A1_10 c1_10 ≠ some g0_0 := at1_10.off (by have := b0.lt; have := h1_8.size; have := h1_9.size; omega) (fun he => by have := (o1b.row he).1; have := b0.lt; omega)
  have b0 := ((b0.le h1_8).le h1_9).ch h1_10 (fun he => by have := (o1b.row he).1; have := b0.lt; omega)
  refine W.any (.assign rfl) rfl rfl rfl ?_
  refine W.nil ?_
  refine E.thenN ?_
  refine WC.seq ?_
  refine WC.block ?_
  refine WC.loop (ι := Nat × Option Addr × Nat) (fun ⟨k, A2, c2⟩ => [(0, .slice A n c), (2, .pointer (some ⟨g0_0, 0, none⟩)), (3, .slice A2 (n % 64 + 1 + k) c2)]) (fun ⟨k, A2, c2⟩ wl => k ≤ noughts n ∧ Le w wl ∧ Own wl w.heap.size 5 1 A2 (n % 64 + 1 + k) c2 ((xs.drop (n - n % 64) ++ [128] ++ List.replicate k 0).map u8v) ∧ Blk wl g0_0 89 ((List.replicate 32 0#8).map u8v).toArray ∧ rowOf A2 c2 ≠ some g0_0) (fun ⟨k, A2, c2⟩ => 64 - k) (0, A1_10, c1_10) ?_ ?_ ?_
  · exact .cons rfl (.cons rfl (.cons' rfl (slice_eq (by omega)) (.nil _)))
  · exact ⟨Nat.zero_le _, L1_10, o1_10.cast (by omega) (by simp; rfl), b0, ne0⟩
  · rintro ⟨k, A2, c2⟩ wl ⟨hk, Ll, ol, b0, ne0⟩
    have hk63 : noughts n ≤ 63 := by unfold noughts; omega
    refine WC.seq ?_
    refine WC.seq ?_
    refine WC.region ?_
    refine W.any (.move rfl) rfl rfl rfl ?_
    refine W.rd (.len Try.underlying107 rfl) rfl rfl rfl ?_
    refine W.any (.rem rfl rfl (by omega)) rfl rfl rfl ?_
    refine W.any (.neq rfl rfl) rfl rfl rfl ?_
    refine W.nil ?_
    refine E.thenN ?_
    refine WC.cond rfl (fun c0 => ?_) (fun c0 => ?_)
    · refine WC.skip ?_
      refine E.thenN ?_
      refine WC.block ?_
      refine WC.region ?_
      refine W.any (.move rfl) rfl rfl rfl ?_
      refine W.ef rfl rfl rfl ?_
      refine Ef.buildSlice1 Try.underlying107 el5 rfl rfl ?_
      intro g3_1 w3_1 hg3_1 b3_1 h3_1
      have L3_1 := Ll.trans h3_1
      refine W.ef rfl rfl rfl ?_
      refine Ef.append Try.underlying107 el5 rfl (ol.le h3_1) rfl (b3_1.src1 Try.underlying107 rfl) (by omega) (by unfold maxLen; omega) (Nat.le_trans Ll.size h3_1.size) ?_
      intro A3_2 c3_2 w3_2 o3_2 h3_2 at3_2
      have L3_2 : Le w w3_2 := L3_1.then_ h3_2 (fun q hq => (ol.row hq).1)
      refine W.any (.assign rfl) rfl rfl rfl ?_
      refine W.nil ?_
      refine E.blkN ?_
      refine E.again (k + 1, A3_2, c3_2) (.cons rfl (.cons rfl (.cons' rfl (slice_eq (by omega)) (.nil _)))) ?_ ?_
      · exact ⟨by unfold noughts at *; omega, L3_2, o3_2.cast (by omega) (by simp [List.replicate_succ']; rfl), (b0.le h3_1).ch h3_2 ne0, at3_2.off (by have := b0.lt; have := h3_1.size; omega) ne0⟩
      · first | omega | (simp only []; omega)
    · have hkn : k = noughts n := by unfold noughts at *; omega
      subst hkn
      refine WC.exit ?_
      refine E.thenX ?_
      refine E.thenX ?_
      refine E.blkH ?_
      refine E.thenN ?_
      refine WC.seq ?_
      refine WC.region ?_
      refine W.any (.move rfl) rfl rfl rfl ?_
      refine W.any (.move rfl) rfl rfl rfl ?_
      refine W.rd (.len Try.underlying107 rfl) rfl rfl rfl ?_
      refine W.any (.mul rfl rfl (by omega)) rfl rfl rfl ?_
      refine W.ef rfl rfl rfl ?_
      refine Ef.call go126 rfl rfl (long_ok (8 * n) wl ol (by omega) (by omega) Ll.size) ?_
      rintro _ w4_4 ⟨A4, c4, rfl, o4, h4_4, at4⟩
      refine ⟨_, rfl, ?_⟩
      have L4_4 : Le w w4_4 := Ll.then_ h4_4 (fun q hq => (ol.row hq).1)
      have b0 := b0.ch h4_4 ne0
      obtain ⟨ge, hA4, hge1, hge2, hrow⟩ := o4.lit (by omega)
      subst hA4
      have hce := o4.cap.1
      have hE : Sb w4_4 (some ⟨ge, 0, none⟩) (n % 64 + 1 + noughts n + 8) (tail xs) := o4.sb.cast rfl (by simp [tail, hl])
      have htl := tail_length xs
      have hlen := hE.len
      rw [hlen] at htl
      refine W.any (.assign rfl) rfl rfl rfl ?_
      refine W.nil ?_
      refine E.thenN ?_
      refine WC.seq ?_
      refine WC.region ?_
      refine W.ef rfl rfl rfl ?_
      refine Ef.call go127 rfl rfl (first_ok w4_4) ?_
      rintro _ w5_0 ⟨rfl, h5_0⟩
      refine ⟨_, rfl, ?_⟩
      have L5_0 := L4_4.trans h5_0
      refine W.ef rfl rfl rfl ?_
      refine Ef.allocA z196 ?_
      intro g5_1 w5_1 hg5_1 b5_1 h5_1
      have L5_1 := L5_0.trans h5_1
      refine W.ef0 rfl rfl ?_
      refine Ef.storeAll sz196 (rfl) rfl rfl (b5_1) (rfl) (fun v hv => all_u32v _ v (by simpa using hv)) ?_
      intro w5_2 b5_2 h5_2
      have L5_2 : Le w w5_2 := L5_1.then_ h5_2 (fun q hq => by cases hq; exact Nat.le_trans L5_0.size hg5_1)
      have g5 : w4_4.heap.size ≤ g5_1 := Nat.le_trans h5_0.size hg5_1
      have n05 : g0_0 < g5_1 := Nat.lt_of_lt_of_le b0.lt g5
      have ne5 : ge < g5_1 := Nat.lt_of_lt_of_le hge2 g5
      have hgh : w.heap.size ≤ g5_1 := Nat.le_trans L4_4.size g5
      have b0 := ((b0.le h5_0).le h5_1).ch h5_2 (by simp; omega)
      have hE := ((hE.le h5_0).le h5_1).ch h5_2 (fun q hq => by cases hq; simp [blkOf]; omega)
      refine W.nil ?_
      refine E.thenN ?_
      refine WC.seq ?_
      refine WC.block ?_
      refine WC.loop (ι := Option Addr × Nat × Nat × List Byte × List Word) (fun ⟨Ab, nb, cb, ys, hh⟩ => [(0, .slice Ab nb cb), (2, .pointer (some ⟨g0_0, 0, none⟩)), (3, .slice (some ⟨ge, 0, none⟩) (n % 64 + 1 + noughts n + 8) c4), (4, .pointer (some ⟨g5_1, 0, none⟩))]) (fun ⟨Ab, nb, cb, ys, hh⟩ wp => Sb w Ab nb ys ∧ nb ≤ cb ∧ hh.length = 8 ∧ mixAll hh ys = mixAll first xs ∧ Le w wp ∧ Blk wp g5_1 196 (hh.map u32v).toArray ∧ Blk wp g0_0 89 ((List.replicate 32 0#8).map u8v).toArray ∧ Sb wp (some ⟨ge, 0, none⟩) (n % 64 + 1 + noughts n + 8) (tail xs)) (fun ⟨Ab, nb, cb, ys, hh⟩ => nb) (A, n, c, xs, first) ?_ ?_ ?_
      · exact .cons rfl (.cons rfl (.cons rfl (.cons rfl (.nil _))))
      · exact ⟨hS, hc, rfl, rfl, L5_2, b5_2, b0, hE⟩
      · rintro ⟨Ab, nb, cb, ys, hh⟩ wp ⟨hb, hcb, hhl, hmx, Lp, bh, b0, hE⟩
        have hyl := hb.len
        refine WC.seq ?_
        refine WC.seq ?_
        refine WC.region ?_
        refine W.any (.move rfl) rfl rfl rfl ?_
        refine W.rd (.len Try.underlying107 rfl) rfl rfl rfl ?_
        refine W.any (.geq rfl rfl) rfl rfl rfl ?_
        refine W.nil ?_
        refine E.thenN ?_
        refine WC.cond rfl (fun c1 => ?_) (fun c1 => ?_)
        · refine WC.skip ?_
          refine E.thenN ?_
          refine WC.seq ?_
          refine WC.block ?_
          refine WC.draw [0, 1, 2, 3, 4] mixed (by kernel_rfl) ?_
          intro w8 d8
          have L8 := Lp.trans d8
          refine G.rd rfl rfl (.loadAll ag196 (by simp [hhl]) rfl (bh.le d8)) rfl rfl rfl ?_
          refine G.any rfl rfl (.move rfl) rfl rfl rfl ?_
          refine G.any rfl rfl (.cutH (64) Try.underlying107 sz5 rfl rfl (rfl) (by omega)) rfl rfl rfl ?_
          refine G.ef rfl rfl rfl rfl rfl ?_
          refine Ef.call go128 rfl rfl (mix_ok w8 hhl ((hb.le L8).cutH 64 (by omega)) rfl (by omega)) ?_
          rintro _ w8_3 ⟨rfl, h8_3⟩
          refine ⟨_, rfl, ?_⟩
          have L8_3 := L8.trans h8_3
          refine ⟨fun _ => h8_3, ?_⟩
          refine G.ef0 rfl rfl rfl rfl ?_
          refine Ef.storeAll sz196 (by simp [mix_length]) rfl rfl ((bh.le d8).le h8_3) (by simp [mix_length, hhl]) (fun v hv => all_u32v _ v (by simpa using hv)) ?_
          intro w8_4 b8_4 h8_4
          have L8_4 : Le w w8_4 := L8_3.then_ h8_4 (fun q hq => by cases hq; exact hgh)
          refine ⟨fun h => absurd h (ne_true_of_eq_false (by kernel_rfl)), ?_⟩
          refine G.nil ?_
          refine E.blkN ?_
          refine E.thenN ?_
          refine WC.region ?_
          refine W.any (.move rfl) rfl rfl rfl ?_
          refine W.any (.cutL (64) Try.underlying107 sz5 rfl rfl (rfl) (by omega) (by omega)) rfl rfl rfl ?_
          refine W.any (.assign rfl) rfl rfl rfl ?_
          refine W.nil ?_
          refine E.again (cutA Ab cb 64 1, nb - 64, cb - 64, ys.drop 64, mix hh (ys.take 64)) (.cons rfl (.cons rfl (.cons rfl (.cons rfl (.nil _))))) ?_ ?_
          · exact ⟨hb.cutL cb 64 (by omega) hcb, by omega, mix_length _ _, (mixAll_step _ _ (by omega)).symm.trans hmx, L8_4, b8_4, ((b0.le d8).le h8_3).ch h8_4 (by simp; omega), ((hE.le d8).le h8_3).ch h8_4 (fun q hq => by cases hq; simp [blkOf]; omega)⟩
          · first | omega | (simp only []; omega)
        · have hhe : hh = mixAll first xs := by rw [← hmx, mixAll_end _ _ (by omega)]
          refine WC.exit ?_
          refine E.thenX ?_
          refine E.thenX ?_
          refine E.blkH ?_
          refine E.thenN ?_
          refine WC.seq ?_
          refine WC.block ?_
          refine WC.loop (ι := Option Addr × Nat × Nat × List Byte × List Word) (fun ⟨Ab, nb, cb, ys, hh⟩ => [(2, .pointer (some ⟨g0_0, 0, none⟩)), (3, .slice Ab nb cb), (4, .pointer (some ⟨g5_1, 0, none⟩))]) (fun ⟨Ab, nb, cb, ys, hh⟩ wq => Sb wq Ab nb ys ∧ blkOf Ab = some ge ∧ nb ≤ cb ∧ nb % 64 = 0 ∧ hh.length = 8 ∧ mixAll hh ys = mixAll (mixAll first xs) (tail xs) ∧ Le w wq ∧ Blk wq g5_1 196 (hh.map u32v).toArray ∧ Blk wq g0_0 89 ((List.replicate 32 0#8).map u8v).toArray) (fun ⟨Ab, nb, cb, ys, hh⟩ => nb) (some ⟨ge, 0, none⟩, n % 64 + 1 + noughts n + 8, c4, tail xs, hh) ?_ ?_ ?_
          · exact .cons rfl (.cons rfl (.cons rfl (.nil _)))
          · exact ⟨hE, rfl, hce, htl, hhl, by rw [hhe], Lp, bh, b0⟩
          · rintro ⟨Ab, nb, cb, ys, hh⟩ wq ⟨hb, hbe, hcb, h64, hhl, hmx, Lq, bh, b0⟩
            have hyl := hb.len
            refine WC.seq ?_
            refine WC.seq ?_
            refine WC.region ?_
            refine W.any (.move rfl) rfl rfl rfl ?_
            refine W.rd (.len Try.underlying107 rfl) rfl rfl rfl ?_
            refine W.any (.gtr rfl rfl) rfl rfl rfl ?_
            refine W.nil ?_
            refine E.thenN ?_
            refine WC.cond rfl (fun c2 => ?_) (fun c2 => ?_)
            · refine WC.skip ?_
              refine E.thenN ?_
              refine WC.seq ?_
              refine WC.block ?_
              refine WC.draw [0, 1, 2, 3, 4] mixed (by kernel_rfl) ?_
              intro w11 d11
              have L11 := Lq.trans d11
              refine G.rd rfl rfl (.loadAll ag196 (by simp [hhl]) rfl (bh.le d11)) rfl rfl rfl ?_
              refine G.any rfl rfl (.move rfl) rfl rfl rfl ?_
              refine G.any rfl rfl (.cutH (64) Try.underlying107 sz5 rfl rfl (rfl) (by omega)) rfl rfl rfl ?_
              refine G.ef rfl rfl rfl rfl rfl ?_
              refine Ef.call go128 rfl rfl (mix_ok w11 hhl ((hb.le d11).cutH 64 (by omega)) rfl (by omega)) ?_
              rintro _ w11_3 ⟨rfl, h11_3⟩
              refine ⟨_, rfl, ?_⟩
              have L11_3 := L11.trans h11_3
              refine ⟨fun _ => h11_3, ?_⟩
              refine G.ef0 rfl rfl rfl rfl ?_
              refine Ef.storeAll sz196 (by simp [mix_length]) rfl rfl ((bh.le d11).le h11_3) (by simp [mix_length, hhl]) (fun v hv => all_u32v _ v (by simpa using hv)) ?_
              intro w11_4 b11_4 h11_4
              have L11_4 : Le w w11_4 := L11_3.then_ h11_4 (fun q hq => by cases hq; exact hgh)
              refine ⟨fun h => absurd h (ne_true_of_eq_false (by kernel_rfl)), ?_⟩
              refine G.nil ?_
              refine E.blkN ?_
              refine E.thenN ?_
              refine WC.region ?_
              refine W.any (.move rfl) rfl rfl rfl ?_
              refine W.any (.cutL (64) Try.underlying107 sz5 rfl rfl (rfl) (by omega) (by omega)) rfl rfl rfl ?_
              refine W.any (.assign rfl) rfl rfl rfl ?_
              refine W.nil ?_
              refine E.again (cutA Ab cb 64 1, nb - 64, cb - 64, ys.drop 64, mix hh (ys.take 64)) (.cons rfl (.cons rfl (.cons rfl (.nil _)))) ?_ ?_
              · exact ⟨(((hb.le d11).le h11_3).ch h11_4 (fun q hq => by cases hq; rw [hbe]; simp; omega)).cutL cb 64 (by omega) hcb, by rw [blkOf_cutA, hbe], by omega, by omega, mix_length _ _, (mixAll_step _ _ (by omega)).symm.trans hmx, L11_4, b11_4, ((b0.le d11).le h11_3).ch h11_4 (by simp; omega)⟩
              · first | omega | (simp only []; omega)
            · have hhe : hh = mixAll (mixAll first xs) (tail xs) := by rw [← hmx, mixAll_end _ _ (by omega)]
              refine WC.exit ?_
              refine E.thenX ?_
              refine E.thenX ?_
              refine E.blkH ?_
              refine E.thenN ?_
              refine WC.seq ?_
              refine WC.seq ?_
              refine WC.region ?_
              refine W.any (.move rfl) rfl rfl rfl ?_
              refine W.nil ?_
              refine E.thenN ?_
              refine WC.block ?_
              refine WC.loop (ι := Nat) (fun k => [(2, .pointer (some ⟨g0_0, 0, none⟩)), (4, .pointer (some ⟨g5_1, 0, none⟩)), (48, .int .i64 (k : Int))]) (fun k wr => k ≤ 32 ∧ Le w wr ∧ Blk wr g5_1 196 (hh.map u32v).toArray ∧ Blk wr g0_0 89 ((digestTo hh k).map u8v).toArray) (fun k => 32 - k) 0 ?_ ?_ ?_
              · exact .cons rfl (.cons rfl (.cons rfl (.nil _)))
              · exact ⟨by omega, Lq, bh, b0⟩
              · rintro k wr ⟨hk, Lr, bh, b0⟩
                have hdl := digestTo_length hh k hk
                refine WC.seq ?_
                refine WC.region ?_
                refine W.any (.lss rfl rfl) rfl rfl rfl ?_
                refine W.nil ?_
                refine E.thenN ?_
                refine WC.seq ?_
                refine WC.cond rfl (fun c3 => ?_) (fun c3 => ?_)
                · refine WC.skip ?_
                  refine E.thenN ?_
                  refine WC.seq ?_
                  refine WC.block ?_
                  refine WC.seq ?_
                  refine WC.region ?_
                  refine W.any (.move rfl) rfl rfl rfl ?_
                  refine W.any (.assign rfl) rfl rfl rfl ?_
                  refine W.nil ?_
                  refine E.thenN ?_
                  refine WC.region ?_
                  refine W.any (.move rfl) rfl rfl rfl ?_
                  refine W.any (.move rfl) rfl rfl rfl ?_
                  refine W.any (.quo rfl rfl (by omega)) rfl rfl rfl ?_
                  refine W.any (.idxA1 (k / 4) Try.underlying196 sz194 rfl rfl (by omega) (by omega)) rfl rfl rfl ?_
                  refine W.rd (.loadB na194 rfl (bh) (getwA _ (by omega))) rfl rfl rfl ?_
                  refine W.any (.move rfl) rfl rfl rfl ?_
                  refine W.any (.rem rfl rfl (by omega)) rfl rfl rfl ?_
                  refine W.any (.mul rfl rfl (by omega)) rfl rfl rfl ?_
                  refine W.any (.sub rfl rfl (by omega)) rfl rfl rfl ?_
                  refine W.any (.shr32 (24 - 8 * (k % 4)) rfl rfl (by omega) (by omega)) rfl rfl rfl ?_
                  refine W.rd (.u32to8 (isS Try.underlying194) Try.underlying5 rfl) rfl rfl rfl ?_
                  refine W.any (.idxA1 (k) Try.underlying89 sz5 rfl rfl (rfl) (by omega)) rfl rfl rfl ?_
                  refine W.ef0 rfl rfl ?_
                  refine Ef.store sz5 rfl rfl (b0) (by simp; omega) (rfl) ?_
                  intro w15_12 b15_12 h15_12
                  have L15_12 : Le w w15_12 := Lr.then_ h15_12 (fun q hq => by cases hq; exact hg0_0)
                  refine W.nil ?_
                  refine E.blkN ?_
                  refine E.thenN ?_
                  refine WC.region ?_
                  refine W.any (.add rfl rfl (by omega)) rfl rfl rfl ?_
                  refine W.any (.move rfl) rfl rfl rfl ?_
                  refine W.nil ?_
                  refine E.again (k + 1) (.cons rfl (.cons rfl (.cons rfl (.nil _)))) ?_ ?_
                  · exact ⟨by omega, L15_12, bh.ch h15_12 (by simp; omega), b15_12.cast (by rw [← digestTo_succ hh k (by omega)]; apply Array.ext'; simp)⟩
                  · first | omega | (simp only []; omega)
                · have hk32 : k = 32 := by omega
                  subst hk32
                  refine WC.exit ?_
                  refine E.thenX ?_
                  refine E.thenX ?_
                  refine E.blkH ?_
                  refine E.thenN ?_
                  refine WC.seq ?_
                  refine WC.region ?_
                  refine W.rd (.loadAll ag89 (by simp [hdl]) rfl (b0)) rfl rfl rfl ?_
                  refine W.ef0 rfl rfl ?_
                  refine Ef.storeAll sz89 (by simp [hdl]) rfl rfl (b0) (by simp) (all_u8v _) ?_
                  intro w17_1 b17_1 h17_1
                  have L17_1 : Le w w17_1 := Lr.then_ h17_1 (fun q hq => by cases hq; exact hg0_0)
                  refine W.nil ?_
                  refine E.thenN ?_
                  refine WC.ret ?_
                  refine E.retC rfl rfl b17_1 ag89 (by simp [hdl]) ?_
                  exact ⟨by rw [Hsp.sum, ← hhe]; simp [digestTo, List.take_of_length_le, digest_length], L17_1⟩

set_option maxHeartbeats 1000000 in
theorem tag_ok {A : Option Addr} {n c : Nat} {vs : List Value} {ps : List (List Byte)} (name : ByteArray) (nm : List Byte) (w : World) (hnm : byteCells name = nm.map u8v) (hV : Sl w 1 A n vs) (hP : Parts w vs ps) (hT : (tagBytes nm ps).length ≤ 1099511627776) : Calls Try.prog 107 #[.string name, .slice A n c] w fun e w' => e = .returned (.agg ((tag nm ps).map u8v).toArray) ∧ Le w w' := by
  have hns : name.size = nm.length := by have := congrArg List.length hnm; simpa [byteCells_length] using this
  have hnl : nm.length = name.size := hns.symm
  have hvl := hV.1
  have hpl := hP.1
  have hpn := tagBytes_parts nm ps
  have hle := tagTo_le nm ps 0
  rw [tagTo_zero] at hle
  simp [be8_length] at hle
  refine enter Try.func107 rfl rfl ?_
  have L0 := Le.refl w
  refine WC.seq ?_
  refine WC.region ?_
  refine W.ef rfl rfl rfl ?_
  refine Ef.allocA z89 ?_
  intro g0_0 w0_0 hg0_0 b0_0 h0_0
  have L0_0 := L0.trans h0_0
  have b0 : Blk w0_0 g0_0 89 ((List.replicate 32 0#8).map u8v).toArray := b0_0
  refine W.nil ?_
  refine E.thenN ?_
  refine WC.seq ?_
  refine WC.region ?_
  refine W.any (.move rfl) rfl rfl rfl ?_
  refine W.rd (.lenStr Try.underlying9 rfl) rfl rfl rfl ?_
  refine W.ef rfl rfl rfl ?_
  refine Ef.call go126 rfl rfl (long_ok (xs := []) name.size w0_0 (Own.empty w0_0 w.heap.size 5 1 none) (by omega) (by omega) L0_0.size) ?_
  rintro _ w1_2 ⟨A1, c1, rfl, o1, h1_2, at1⟩
  refine ⟨_, rfl, ?_⟩
  have L1_2 : Le w w1_2 := L0_0.then_ h1_2 (fun q hq => by rw [rowOf_zero] at hq; cases hq)
  have b0 := b0.ch h1_2 (by rw [rowOf_zero]; simp)
  have ne0 : rowOf A1 c1 ≠ some g0_0 := fun he => by have := at1.none he; have := b0_0.lt; omega
  refine W.any (.move rfl) rfl rfl rfl ?_
  refine W.ef rfl rfl rfl ?_
  refine Ef.append Try.underlying107 el5 rfl (o1) rfl (Src.ofString w1_2 Try.underlying9 name) (by omega) (by unfold maxLen; omega) (L1_2.size) ?_
  intro A1_4 c1_4 w1_4 o1_4 h1_4 at1_4
  have L1_4 : Le w w1_4 := L1_2.then_ h1_4 (fun q hq => (o1.row hq).1)
  have ne0 : rowOf A1_4 c1_4 ≠ some g0_0 := at1_4.off (by have := b0.lt; omega) ne0
  have b0 := b0.ch h1_4 (by assumption)
  refine W.any (.assign rfl) rfl rfl rfl ?_
  refine W.nil ?_
  refine E.thenN ?_
  refine WC.seq ?_
  refine WC.seq ?_
  refine WC.region ?_
  refine W.any (.move rfl) rfl rfl rfl ?_
  refine W.rd (.len Try.underlying211 rfl) rfl rfl rfl ?_
  refine W.any (.move rfl) rfl rfl rfl ?_
  refine W.nil ?_
  refine E.thenN ?_
  refine WC.block ?_
  refine WC.loop (ι := Nat × Option Addr × Nat) (fun ⟨k, A2, c2⟩ => [(4, .pointer (some ⟨g0_0, 0, none⟩)), (5, .slice A2 (tagTo nm ps k).length c2), (13, .slice A n c), (14, .int .i64 (n : Int)), (15, .int .i64 (k : Int))]) (fun ⟨k, A2, c2⟩ wl => k ≤ n ∧ Le w wl ∧ Own wl w.heap.size 5 1 A2 (tagTo nm ps k).length c2 ((tagTo nm ps k).map u8v) ∧ Blk wl g0_0 89 ((List.replicate 32 0#8).map u8v).toArray ∧ rowOf A2 c2 ≠ some g0_0) (fun ⟨k, A2, c2⟩ => n - k) (0, A1_4, c1_4) ?_ ?_ ?_
  · exact .cons rfl (.cons' rfl (slice_eq (by rw [tagTo_zero]; simp [be8_length, hnl])) (.cons rfl (.cons rfl (.cons rfl (.nil _)))))
  · exact ⟨Nat.zero_le _, L1_4, o1_4.cast (by rw [tagTo_zero]; simp [be8_length, hnl]) (by rw [tagTo_zero, hnm]; simp [hnl]), b0, ne0⟩
  · rintro ⟨k, A2, c2⟩ wl ⟨hk, Ll, ol, b0, ne0⟩
    have hTk : (tagTo nm ps k).length ≤ 1099511627776 := Nat.le_trans (tagTo_le nm ps k) hT
    refine WC.seq ?_
    refine WC.region ?_
    refine W.any (.lss rfl rfl) rfl rfl rfl ?_
    refine W.nil ?_
    refine E.thenN ?_
    refine WC.seq ?_
    refine WC.cond rfl (fun c0 => ?_) (fun c0 => ?_)
    · have hkn : k < n := by omega
      obtain ⟨q, hq⟩ : ∃ q, ps[k]? = some q := ⟨_, List.getElem?_eq_getElem (by omega)⟩
      obtain ⟨v, hv⟩ : ∃ v, vs[k]? = some v := ⟨_, List.getElem?_eq_getElem (by omega)⟩
      obtain ⟨Aq, cq, rfl, hq8⟩ := hP.2 k v q hv hq
      have hsucc := tagTo_succ nm ps k q hq
      have hTk1 : (tagTo nm ps (k + 1)).length ≤ 1099511627776 := Nat.le_trans (tagTo_le nm ps (k + 1)) hT
      have hsl : (tagTo nm ps (k + 1)).length = (tagTo nm ps k).length + 8 + q.length := by rw [hsucc]; simp [be8_length]; omega
      refine WC.skip ?_
      refine E.thenN ?_
      refine WC.seq ?_
      refine WC.block ?_
      refine WC.seq ?_
      refine WC.region ?_
      refine W.any (.idxS1 (k) Try.underlying211 sz107 rfl rfl (hV.isSome hkn (by decide)) (rfl) (by omega)) rfl rfl rfl ?_
      refine W.rd (.loadS na107 rfl (hV.le Ll) (hv)) rfl rfl rfl ?_
      refine W.any (.assign rfl) rfl rfl rfl ?_
      refine W.nil ?_
      refine E.thenN ?_
      refine WC.region ?_
      refine W.any (.move rfl) rfl rfl rfl ?_
      refine W.any (.move rfl) rfl rfl rfl ?_
      refine W.rd (.len Try.underlying107 rfl) rfl rfl rfl ?_
      refine W.ef rfl rfl rfl ?_
      refine Ef.call go126 rfl rfl (long_ok q.length wl ol (by omega) (by omega) Ll.size) ?_
      rintro _ w5_3 ⟨A3, c3, rfl, o3, h5_3, at3⟩
      refine ⟨_, rfl, ?_⟩
      have L5_3 : Le w w5_3 := Ll.then_ h5_3 (fun q hq => (ol.row hq).1)
      have ne0' : rowOf A3 c3 ≠ some g0_0 := at3.off (by have := b0.lt; omega) ne0
      have b0 := b0.ch h5_3 ne0
      refine W.any (.move rfl) rfl rfl rfl ?_
      refine W.ef rfl rfl rfl ?_
      refine Ef.append Try.underlying107 el5 rfl (o3) rfl ((hq8.le L5_3).src Try.underlying107 _) (by omega) (by unfold maxLen; omega) (L5_3.size) ?_
      intro A5_5 c5_5 w5_5 o5_5 h5_5 at5_5
      have L5_5 : Le w w5_5 := L5_3.then_ h5_5 (fun q hq => (o3.row hq).1)
      refine W.any (.assign rfl) rfl rfl rfl ?_
      refine W.nil ?_
      refine E.blkN ?_
      refine E.thenN ?_
      refine WC.region ?_
      refine W.any (.add rfl rfl (by omega)) rfl rfl rfl ?_
      refine W.any (.move rfl) rfl rfl rfl ?_
      refine W.nil ?_
      refine E.again (k + 1, A5_5, c5_5) (.cons rfl (.cons' rfl (slice_eq (by rw [hsucc]; simp [be8_length]; omega)) (.cons rfl (.cons rfl (.cons rfl (.nil _)))))) ?_ ?_
      · exact ⟨by omega, L5_5, o5_5.cast (by rw [hsucc]; simp [be8_length]; omega) (by rw [hsucc]; simp), b0.ch h5_5 ne0', at5_5.off (by have := b0.lt; omega) ne0'⟩
      · first | omega | (simp only []; omega)
    · have hkn : k = n := by omega
      refine WC.exit ?_
      refine E.thenX ?_
      refine E.thenX ?_
      refine E.blkH ?_
      refine E.thenN ?_
      refine WC.seq ?_
      refine WC.region ?_
      refine W.any (.move rfl) rfl rfl rfl ?_
      refine W.ef rfl rfl rfl ?_
      refine Ef.call go73 rfl rfl (sum_ok wl ol.sb (by omega) ol.cap.1) ?_
      rintro _ w7_1 ⟨rfl, h7_1⟩
      refine ⟨_, rfl, ?_⟩
      have L7_1 := Ll.trans h7_1
      refine W.ef0 rfl rfl ?_
      refine Ef.storeAll sz89 (by simp [sum_length]) rfl rfl (b0.le h7_1) (by simp [sum_length]) (all_u8v _) ?_
      intro w7_2 b7_2 h7_2
      have L7_2 : Le w w7_2 := L7_1.then_ h7_2 (fun q hq => by cases hq; exact hg0_0)
      refine W.nil ?_
      refine E.thenN ?_
      refine WC.ret ?_
      refine E.retC rfl rfl b7_2 ag89 (by simp [sum_length]) ?_
      exact ⟨by rw [tag, tagTo_all nm ps k (by omega)], L7_2⟩
end Go.Proofs.Ytfgakofjkldcjaa
