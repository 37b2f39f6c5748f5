/- The document's Peel, walked: it computes what the program's does. -/
import Derived.Test.YtpmjdiccekkadaaRef31
namespace Go.Proofs.Ytpmjdiccekkadaa
open Go Go.Sx Go.Hsp Go.Num Go.Osp
set_option maxRecDepth 20000
theorem may_next {h : Hop} (hy : mayB h = true) : -1 ≤ h.1 := by
  by_cases q1 : -1 ≤ h.1 ∧ h.1 ≤ 11
  · exact q1.1
  · rw [mayB, decide_eq_false q1] at hy; simp at hy
theorem scale_64 (p k : Nat) : scale p k < 18446744073709551616 := Nat.lt_trans (scale_lt p k) M_lt
set_option maxHeartbeats 2000000 in
theorem rpeel_ok (kk : Nat) (_hkk : kk < 18446744073709551616) {A : Option Addr} {n c : Nat} {xs : List Byte} (w : World) (hS : Sb w A n xs) (hc : n ≤ c) : Calls Try.prog 32 #[.int .u64 ((kk : Nat) : Int), .slice A n c] w fun e w' => ∃ A' m c', e = .returned (.tuple #[.agg (hopV (peelB kk xs).1).toArray, .slice A' m c', .agg ((peelB kk xs).2.2.1.map u8v).toArray, .int .i64 (peelB kk xs).2.2.2]) ∧ Own w' w.heap.size 5 1 A' m c' ((peelB kk xs).2.1.map u8v) ∧ Le w w' := by
  have hl := hS.len
  refine enter Try.func32 rfl rfl ?_
  have L0 := Le.refl w
  refine WC.seq ?_
  refine WC.region ?_
  refine W.ef rfl rfl rfl ?_
  refine Ef.allocA z51 ?_
  intro g0_0 w0_0 hg0_0 b0_0 h0_0
  have L0_0 := L0.trans h0_0
  have bh : Blk w0_0 g0_0 51 (hopV noHop).toArray := b0_0
  refine W.any (.assign rfl) rfl rfl rfl ?_
  refine W.ef rfl rfl rfl ?_
  refine Ef.allocA z23 ?_
  intro g0_2 w0_2 hg0_2 b0_2 h0_2
  have L0_2 := L0_0.trans h0_2
  have bh := bh.le h0_2
  have bs : Blk w0_2 g0_2 23 ((zeros 32).map u8v).toArray := b0_2
  have LL := Le.refl w0_2
  have hL0 := h0_0.trans h0_2
  have hS := hS.le hL0
  have hne : g0_0 ≠ g0_2 := by have := b0_0.lt; omega
  have hlh := bh.lt
  have hls := bs.lt
  refine W.any (.assign rfl) rfl rfl rfl ?_
  refine W.nil ?_
  refine E.thenN ?_
  refine WC.seq ?_
  refine WC.seq ?_
  refine WC.region ?_
  refine W.any (.move rfl) rfl rfl rfl ?_
  by_cases hq : kk < q
  · refine W.ef rfl rfl rfl ?_
    refine Ef.call go88 rfl rfl (rfright_T kk hq w0_2) ?_
    rintro _ w1_1 ⟨rfl, h1_1⟩
    refine ⟨_, rfl, ?_⟩
    have L1_1 := LL.trans h1_1
    refine W.any (.not rfl) rfl rfl rfl ?_
    refine W.any (.move rfl) rfl rfl rfl ?_
    refine W.rdg (Any.rd (.move rfl) _) rfl rfl rfl (rfl) rfl rfl ?_
    by_cases h0 : kk = 0
    · refine W.rdg (Any.rd (.dec (.eql rfl rfl) (decide_eq_true (by omega))) _) rfl rfl rfl (rfl) rfl rfl ?_
      refine W.any (.pickF rfl rfl rfl) rfl rfl rfl ?_
      refine W.nil ?_
      refine E.thenN ?_
      refine WC.condT rfl ?_
      refine WC.seq ?_
      refine WC.region ?_
      refine W.any (.buildF pl51 z51 rfl (show Instr.fill _ _ _ = some (hopV noHop).toArray from rfl)) rfl rfl rfl ?_
      refine W.any (.buildA (cells := ((zeros 32).map u8v).toArray) Try.underlying23 sz5 z23 rfl (by kernel_rfl)) rfl rfl rfl ?_
      have qb := bs.le L1_1
      refine W.ef0 rfl rfl ?_
      refine Ef.storeAll sz51 (by rfl) rfl rfl (bh.le L1_1) (by rfl) (hopV_one _) ?_
      intro w2_2 b2_2 h2_2
      have L2_2 : Le w w2_2 := (hL0.trans L1_1).then_ h2_2 (fun q hq => by cases hq; exact hg0_0)
      have q2 := qb.ch h2_2 (by simp [hne])
      refine W.any (.assign rfl) rfl rfl rfl ?_
      refine W.ef0 rfl rfl ?_
      refine Ef.storeAll sz23 (by rfl) rfl rfl (q2) (by rfl) (all_u8v _) ?_
      intro w2_4 b2_4 h2_4
      have L2_4 : Le w w2_4 := L2_2.then_ h2_4 (fun q hq => by cases hq; exact Nat.le_trans h0_0.size hg0_2)
      have p2 := b2_2.ch h2_4 (by simp; exact fun h => hne h.symm)
      refine W.any (.assign rfl) rfl rfl rfl ?_
      refine W.nil ?_
      refine E.thenN ?_
      refine WC.ret ?_
      refine E.thenR ?_
      refine E.retCTCT rfl rfl rfl rfl rfl p2 ag51 (by rfl) b2_4 ag23 (by rfl) ?_
      rw [peelB, if_pos (.inl h0)]; exact ⟨none, 0, 0, rfl, Own.nil _ _ _ _ _, L2_4⟩
    · refine W.rdg (Any.rd (.dec (.eql rfl rfl) (decide_eq_false (by omega))) _) rfl rfl rfl (rfl) rfl rfl ?_
      refine W.any (.pickF rfl rfl rfl) rfl rfl rfl ?_
      refine W.nil ?_
      refine E.thenN ?_
      refine WC.condF rfl ?_
      refine WC.skip ?_
      refine E.thenN ?_
      refine WC.seq ?_
      refine WC.seq ?_
      refine WC.region ?_
      refine W.any (.move rfl) rfl rfl rfl ?_
      refine W.rd (.len Try.underlying24 rfl) rfl rfl rfl ?_
      refine W.any (.neq rfl rfl) rfl rfl rfl ?_
      refine W.nil ?_
      refine E.thenN ?_
      refine WC.cond rfl (fun h680 => ?_) (fun h680 => ?_)
      · refine WC.seq ?_
        refine WC.region ?_
        refine W.any (.buildF pl51 z51 rfl (show Instr.fill _ _ _ = some (hopV noHop).toArray from rfl)) rfl rfl rfl ?_
        refine W.any (.buildA (cells := ((zeros 32).map u8v).toArray) Try.underlying23 sz5 z23 rfl (by kernel_rfl)) rfl rfl rfl ?_
        have qb := bs.le L1_1
        refine W.ef0 rfl rfl ?_
        refine Ef.storeAll sz51 (by rfl) rfl rfl (bh.le L1_1) (by rfl) (hopV_one _) ?_
        intro w4_2 b4_2 h4_2
        have L4_2 : Le w w4_2 := (hL0.trans L1_1).then_ h4_2 (fun q hq => by cases hq; exact hg0_0)
        have q4 := qb.ch h4_2 (by simp [hne])
        refine W.any (.assign rfl) rfl rfl rfl ?_
        refine W.ef0 rfl rfl ?_
        refine Ef.storeAll sz23 (by rfl) rfl rfl (q4) (by rfl) (all_u8v _) ?_
        intro w4_4 b4_4 h4_4
        have L4_4 : Le w w4_4 := L4_2.then_ h4_4 (fun q hq => by cases hq; exact Nat.le_trans h0_0.size hg0_2)
        have p4 := b4_2.ch h4_4 (by simp; exact fun h => hne h.symm)
        refine W.any (.assign rfl) rfl rfl rfl ?_
        refine W.nil ?_
        refine E.thenN ?_
        refine WC.ret ?_
        refine E.thenR ?_
        refine E.retCTCT rfl rfl rfl rfl rfl p4 ag51 (by rfl) b4_4 ag23 (by rfl) ?_
        rw [peelB, if_neg (by omega), if_pos (by rw [hl]; omega)]; exact ⟨none, 0, 0, rfl, Own.nil _ _ _ _ _, L4_4⟩
      · have hn : n = 680 := by omega
        subst hn
        refine WC.skip ?_
        refine E.thenN ?_
        refine WC.seq ?_
        refine WC.region ?_
        refine W.any (.move rfl) rfl rfl rfl ?_
        refine W.ef rfl rfl rfl ?_
        refine Ef.call go89 rfl rfl (rnumber_ok w1_1 (hS.le L1_1) (by decide)) ?_
        rintro _ w5_1 ⟨rfl, h5_1⟩
        refine ⟨_, rfl, ?_⟩
        have L5_1 := L1_1.trans h5_1
        refine W.any (.assign rfl) rfl rfl rfl ?_
        refine W.nil ?_
        refine E.thenN ?_
        refine WC.seq ?_
        refine WC.seq ?_
        refine WC.region ?_
        refine W.any (.move rfl) rfl rfl rfl ?_
        by_cases hr : right (numB xs) = true
        · refine W.ef rfl rfl rfl ?_
          refine Ef.call go90 rfl rfl (rpright_T _ (numB_lt xs) hr w5_1) ?_
          rintro _ w6_1 ⟨rfl, h6_1⟩
          refine ⟨_, rfl, ?_⟩
          have L6_1 := L5_1.trans h6_1
          refine W.any (.not rfl) rfl rfl rfl ?_
          refine W.any (.move rfl) rfl rfl rfl ?_
          refine W.rdg (Any.rd (.move rfl) _) rfl rfl rfl (rfl) rfl rfl ?_
          by_cases h1 : numB xs = 1
          · refine W.rdg (Any.rd (.dec (.eql rfl rfl) (decide_eq_true (by omega))) _) rfl rfl rfl (rfl) rfl rfl ?_
            refine W.any (.pickF rfl rfl rfl) rfl rfl rfl ?_
            refine W.nil ?_
            refine E.thenN ?_
            refine WC.condT rfl ?_
            refine WC.seq ?_
            refine WC.region ?_
            refine W.any (.buildF pl51 z51 rfl (show Instr.fill _ _ _ = some (hopV noHop).toArray from rfl)) rfl rfl rfl ?_
            refine W.any (.buildA (cells := ((zeros 32).map u8v).toArray) Try.underlying23 sz5 z23 rfl (by kernel_rfl)) rfl rfl rfl ?_
            have qb := bs.le L6_1
            refine W.ef0 rfl rfl ?_
            refine Ef.storeAll sz51 (by rfl) rfl rfl (bh.le L6_1) (by rfl) (hopV_one _) ?_
            intro w7_2 b7_2 h7_2
            have L7_2 : Le w w7_2 := (hL0.trans L6_1).then_ h7_2 (fun q hq => by cases hq; exact hg0_0)
            have q7 := qb.ch h7_2 (by simp [hne])
            refine W.any (.assign rfl) rfl rfl rfl ?_
            refine W.ef0 rfl rfl ?_
            refine Ef.storeAll sz23 (by rfl) rfl rfl (q7) (by rfl) (all_u8v _) ?_
            intro w7_4 b7_4 h7_4
            have L7_4 : Le w w7_4 := L7_2.then_ h7_4 (fun q hq => by cases hq; exact Nat.le_trans h0_0.size hg0_2)
            have p7 := b7_2.ch h7_4 (by simp; exact fun h => hne h.symm)
            refine W.any (.assign rfl) rfl rfl rfl ?_
            refine W.nil ?_
            refine E.thenN ?_
            refine WC.ret ?_
            refine E.thenR ?_
            refine E.retCTCT rfl rfl rfl rfl rfl p7 ag51 (by rfl) b7_4 ag23 (by rfl) ?_
            rw [peelB, if_neg (by omega), if_neg (by rw [hl]; decide), if_pos (by rw [h1]; rfl)]; exact ⟨none, 0, 0, rfl, Own.nil _ _ _ _ _, L7_4⟩
          · refine W.rdg (Any.rd (.dec (.eql rfl rfl) (decide_eq_false (by omega))) _) rfl rfl rfl (rfl) rfl rfl ?_
            refine W.any (.pickF rfl rfl rfl) rfl rfl rfl ?_
            refine W.nil ?_
            refine E.thenN ?_
            refine WC.condF rfl ?_
            refine WC.skip ?_
            refine E.thenN ?_
            refine WC.seq ?_
            refine WC.region ?_
            refine W.any (.move rfl) rfl rfl rfl ?_
            refine W.any (.move rfl) rfl rfl rfl ?_
            refine W.ef rfl rfl rfl ?_
            refine Ef.call go92 rfl rfl (rscale_ok _ kk (numB_lt xs) w6_1) ?_
            rintro _ w8_2 ⟨rfl, h8_2⟩
            refine ⟨_, rfl, ?_⟩
            have L8_2 := L6_1.trans h8_2
            refine W.ef rfl rfl rfl ?_
            refine Ef.call go91 rfl rfl (rshared_ok _ (scale_64 _ _) w8_2) ?_
            rintro _ w8_3 ⟨rfl, h8_3⟩
            refine ⟨_, rfl, ?_⟩
            have L8_3 := L8_2.trans h8_3
            refine W.ef rfl rfl rfl ?_
            refine Ef.allocA z23 ?_
            intro g8_4 w8_4 hg8_4 b8_4 h8_4
            have L8_4 := L8_3.trans h8_4
            refine W.ef0 rfl rfl ?_
            refine Ef.storeAll sz23 (by simp [sharedB_length]) rfl rfl (b8_4) (by simp [sharedB_length]) (all_u8v _) ?_
            intro w8_5 b8_5 h8_5
            have L8_5 : Le w0_2 w8_5 := L8_4.then_ h8_5 (fun q hq => by cases hq; exact Nat.le_trans L8_3.size hg8_4)
            obtain ⟨sh, hsh⟩ : ∃ sh, sh = sharedB (scale (numB xs) kk) := ⟨_, rfl⟩
            have hsh32 : sh.length = 32 := by rw [hsh]; exact sharedB_length _
            rw [← hsh] at b8_5
            have bt := b8_5
            have hlt := bt.lt
            have hgt := Nat.le_trans L8_3.size hg8_4
            have bh := bh.le L8_5
            have bs := bs.le L8_5
            have hL0 := hL0.trans L8_5
            have hS := hS.le L8_5
            have LM := Le.refl w8_5
            have hsz_w8_5 := L8_5.size
            refine W.nil ?_
            refine E.thenN ?_
            refine WC.seq ?_
            refine WC.region ?_
            refine W.ef rfl rfl rfl ?_
            refine Ef.buildSlice0 Try.underlying24 el5 ?_
            intro g9_0 w9_0 hg9_0 b9_0 h9_0
            have L9_0 := LM.trans h9_0
            refine W.any (.move rfl) rfl rfl rfl ?_
            refine W.any (.cut (8) (648) Try.underlying24 sz5 rfl rfl (rfl) rfl (rfl) (by decide) (by omega)) rfl rfl rfl ?_
            refine W.ef rfl rfl rfl ?_
            refine Ef.append Try.underlying24 el5 rfl (Own.empty w9_0 w8_5.heap.size 5 1 _) rfl (((hS.le L9_0).cut c 8 648 (by decide) (by decide) hc).src Try.underlying24 _) (by omega) (by unfold maxLen; omega) (h9_0.size) ?_
            intro A9_3 c9_3 w9_3 o9_3 h9_3 at9_3
            have L9_3 : Le w8_5 w9_3 := L9_0.then_ h9_3 (fun q hq => by rw [rowOf_zero] at hq; cases hq)
            have r9 : Own w9_3 w8_5.heap.size 5 1 A9_3 640 c9_3 (((xs.drop 8).take 640).map u8v) := o9_3
            refine W.any (.assign rfl) rfl rfl rfl ?_
            refine W.nil ?_
            refine E.thenN ?_
            refine WC.seq ?_
            refine WC.region ?_
            refine W.rd (.loadAll ag23 (by simp [hsh32]) rfl (bt.le L9_3)) rfl rfl rfl ?_
            refine W.any (.move rfl) rfl rfl rfl ?_
            refine W.ef rfl rfl rfl ?_
            refine Ef.call go79 rfl rfl (rmac_ok (numB xs, sh) hsh32 w9_3 r9.sb (by decide)) ?_
            rintro _ w10_2 ⟨rfl, h10_2⟩
            refine ⟨_, rfl, ?_⟩
            have L10_2 := L9_3.trans h10_2
            refine W.ef rfl rfl rfl ?_
            refine Ef.allocA z23 ?_
            intro g10_3 w10_3 hg10_3 b10_3 h10_3
            have L10_3 := L10_2.trans h10_3
            refine W.ef0 rfl rfl ?_
            refine Ef.storeAll sz23 (by simp [macB_length]) rfl rfl (b10_3) (by simp [macB_length]) (all_u8v _) ?_
            intro w10_4 b10_4 h10_4
            have L10_4 : Le w8_5 w10_4 := L10_3.then_ h10_4 (fun q hq => by cases hq; exact Nat.le_trans L10_2.size hg10_3)
            have r9 := ((r9.le h10_2).le h10_3).ch h10_4 (fun q hq => by cases hq; exact fun he => by have := (r9.row he).2; have := h10_2.size; omega)
            refine W.nil ?_
            refine E.thenN ?_
            refine WC.seq ?_
            refine WC.seq ?_
            refine WC.draw [0, 1, 2, 3, 4, 5] mixed (by kernel_rfl) ?_
            intro w11 d11
            have L11 := L10_4.trans d11
            have m11 := b10_4.le d11
            have r9 := r9.le d11
            refine G.any rfl rfl (.cutArr Try.underlying23 sz5 rfl) rfl rfl rfl ?_
            refine G.rd rfl rfl (.toStr Try.underlying24 Try.underlying5 Try.underlying9 rfl (m11.sb (macB_length _ _))) rfl rfl rfl ?_
            refine G.any rfl rfl (.move rfl) rfl rfl rfl ?_
            refine G.any rfl rfl (.cutL (648) Try.underlying24 sz5 rfl rfl (rfl) (by decide) (hc)) rfl rfl rfl ?_
            refine G.rd rfl rfl (.toStr Try.underlying24 Try.underlying5 Try.underlying9 rfl ((hS.le L11).cutL c 648 (by decide) hc)) rfl rfl rfl ?_
            refine G.any rfl rfl (.neqStr rfl rfl) rfl rfl rfl ?_
            refine G.nil ?_
            refine E.thenN ?_
            refine WC.condB rfl (fun hm => ?_) (fun hm => ?_)
            · rw [strOf_eq] at hm
              have hmac : macB (numB xs, sh) ((xs.drop 8).take 640) ≠ xs.drop 648 := by simpa using hm
              refine WC.seq ?_
              refine WC.region ?_
              refine W.any (.buildF pl51 z51 rfl (show Instr.fill _ _ _ = some (hopV noHop).toArray from rfl)) rfl rfl rfl ?_
              refine W.any (.buildA (cells := ((zeros 32).map u8v).toArray) Try.underlying23 sz5 z23 rfl (by kernel_rfl)) rfl rfl rfl ?_
              have qb := bs.le L11
              refine W.ef0 rfl rfl ?_
              refine Ef.storeAll sz51 (by rfl) rfl rfl (bh.le L11) (by rfl) (hopV_one _) ?_
              intro w12_2 b12_2 h12_2
              have L12_2 : Le w w12_2 := (hL0.trans L11).then_ h12_2 (fun q hq => by cases hq; exact hg0_0)
              have q12 := qb.ch h12_2 (by simp [hne])
              refine W.any (.assign rfl) rfl rfl rfl ?_
              refine W.ef0 rfl rfl ?_
              refine Ef.storeAll sz23 (by rfl) rfl rfl (q12) (by rfl) (all_u8v _) ?_
              intro w12_4 b12_4 h12_4
              have L12_4 : Le w w12_4 := L12_2.then_ h12_4 (fun q hq => by cases hq; exact Nat.le_trans h0_0.size hg0_2)
              have p12 := b12_2.ch h12_4 (by simp; exact fun h => hne h.symm)
              refine W.any (.assign rfl) rfl rfl rfl ?_
              refine W.nil ?_
              refine E.thenN ?_
              refine WC.ret ?_
              refine E.thenR ?_
              refine E.retCTCT rfl rfl rfl rfl rfl p12 ag51 (by rfl) b12_4 ag23 (by rfl) ?_
              rw [peelB, if_neg (by omega), if_neg (by rw [hl]; decide), if_neg (by rw [keyOk_yes h1 hr]; decide), ← hsh, if_pos hmac]; exact ⟨none, 0, 0, rfl, Own.nil _ _ _ _ _, L12_4⟩
            · rw [strOf_eq] at hm
              have hmac : macB (numB xs, sh) ((xs.drop 8).take 640) = xs.drop 648 := by simpa using hm
              refine WC.skip ?_
              refine E.thenN ?_
              refine WC.seq ?_
              refine WC.region ?_
              refine W.ef rfl rfl rfl ?_
              refine Ef.makeSlice 80 80 Try.underlying24 el5 rfl rfl rfl rfl (by decide) (by decide) (by decide) ?_
              intro g13_0 w13_0 hg13_0 b13_0 h13_0
              have L13_0 := L11.trans h13_0
              have bz : Blk w13_0 g13_0 5 ((zeros 80).map u8v).toArray := b13_0.cast (made_u8 80)
              have r9 := r9.le h13_0
              refine W.any (.assign rfl) rfl rfl rfl ?_
              refine W.nil ?_
              refine E.thenN ?_
              refine WC.seq ?_
              refine WC.region ?_
              refine W.ef rfl rfl rfl ?_
              refine Ef.buildSlice0 Try.underlying24 el5 ?_
              intro g14_0 w14_0 hg14_0 b14_0 h14_0
              have L14_0 := L13_0.trans h14_0
              have r9 := r9.le h14_0
              have bz := bz.le h14_0
              refine W.any (.move rfl) rfl rfl rfl ?_
              refine W.ef rfl rfl rfl ?_
              refine Ef.append Try.underlying24 el5 rfl (Own.empty w14_0 w13_0.heap.size 5 1 _) rfl (r9.sb.src Try.underlying24 _) (by omega) (by unfold maxLen; omega) (h14_0.size) ?_
              intro A14_2 c14_2 w14_2 o14_2 h14_2 at14_2
              have L14_2 : Le w8_5 w14_2 := L14_0.then_ h14_2 (fun q hq => by rw [rowOf_zero] at hq; cases hq)
              have bz := bz.ch h14_2 (by rw [rowOf_zero]; simp)
              have o14 : Own w14_2 w13_0.heap.size 5 1 A14_2 640 c14_2 (((xs.drop 8).take 640).map u8v) := o14_2
              refine W.any (.assign rfl) rfl rfl rfl ?_
              refine W.nil ?_
              refine E.thenN ?_
              refine WC.seq ?_
              refine WC.region ?_
              refine W.any (.move rfl) rfl rfl rfl ?_
              refine W.any (.move rfl) rfl rfl rfl ?_
              refine W.ef rfl rfl rfl ?_
              refine Ef.append Try.underlying24 el5 rfl (o14) rfl ((bz.sb (zeros_length 80)).src Try.underlying24 _) (by omega) (by unfold maxLen; omega) (Nat.le_trans h14_0.size h14_2.size) ?_
              intro A15_2 c15_2 w15_2 o15_2 h15_2 at15_2
              have L15_2 : Le w8_5 w15_2 := L14_2.then_ h15_2 (fun q hq => Nat.le_trans L13_0.size (o14.row hq).1)
              have o15 : Own w15_2 w13_0.heap.size 5 1 A15_2 720 c15_2 (((xs.drop 8).take 640 ++ zeros 80).map u8v) := o15_2.cast rfl (by rw [List.map_append])
              refine W.any (.assign rfl) rfl rfl rfl ?_
              refine W.nil ?_
              refine E.thenN ?_
              refine WC.seq ?_
              refine WC.region ?_
              refine W.any (.move rfl) rfl rfl rfl ?_
              refine W.rd (.loadAll ag23 (by simp [hsh32]) rfl (bt.le L15_2)) rfl rfl rfl ?_
              refine W.ef rfl rfl rfl ?_
              refine Ef.call go77 rfl rfl (rrho_ok (numB xs, sh) hsh32 720 (by decide) w15_2) ?_
              rintro _ w16_2 ⟨A5, c5, rfl, o5, h16_2⟩
              refine ⟨_, rfl, ?_⟩
              have L16_2 := L15_2.trans h16_2
              refine W.ef rfl rfl rfl ?_
              refine Ef.call go76 rfl rfl (changed_ok w16_2 (o15.le h16_2).sb o5.sb (by decide)) ?_
              rintro _ w16_3 ⟨A6, c6, rfl, o6, h16_3⟩
              refine ⟨_, rfl, ?_⟩
              have L16_3 := L16_2.trans h16_3
              have o6 : Own w16_3 w16_2.heap.size 5 1 A6 720 c6 ((opened (numB xs, sh) ((xs.drop 8).take 640)).map u8v) := o6
              have ohl := o6.sb.len
              refine W.any (.assign rfl) rfl rfl rfl ?_
              refine W.nil ?_
              refine E.thenN ?_
              refine WC.seq ?_
              refine WC.region ?_
              refine W.any (.move rfl) rfl rfl rfl ?_
              refine W.ef rfl rfl rfl ?_
              refine Ef.call go93 rfl rfl (rread_ok w16_3 o6.sb (by decide) o6.cap.1) ?_
              rintro _ w17_1 ⟨rfl, h17_1⟩
              refine ⟨_, rfl, ?_⟩
              have L17_1 := L16_3.trans h17_1
              refine W.ef rfl rfl rfl ?_
              refine Ef.allocA z51 ?_
              intro g17_2 w17_2 hg17_2 b17_2 h17_2
              have L17_2 := L17_1.trans h17_2
              refine W.ef0 rfl rfl ?_
              refine Ef.storeAll sz51 (by rfl) rfl rfl (b17_2) (by rfl) (hopV_one _) ?_
              intro w17_3 b17_3 h17_3
              have L17_3 : Le w8_5 w17_3 := L17_2.then_ h17_3 (fun q hq => by cases hq; exact Nat.le_trans L17_1.size hg17_2)
              have all2 := ((o6.le h17_1).le h17_2).ch h17_3 (fun q hq => by cases hq; exact fun he => by have := (o6.row he).2; have := h17_1.size; omega)
              obtain ⟨hh, hhh⟩ : ∃ hh, hh = readH (opened (numB xs, sh) ((xs.drop 8).take 640)) := ⟨_, rfl⟩
              have hho : HopOk hh := by rw [hhh]; exact readH_ok _
              have bk := b17_3
              rw [← hhh] at bk
              have hgk := Nat.le_trans L17_1.size hg17_2
              have bt := bt.le L17_3
              have bh := bh.le L17_3
              have bs := bs.le L17_3
              have hL0 := hL0.trans L17_3
              have hS := hS.le L17_3
              have LM := Le.refl w17_3
              have hsz_w17_3 := L17_3.size
              refine W.nil ?_
              refine E.thenN ?_
              refine WC.seq ?_
              refine WC.seq ?_
              refine WC.region ?_
              refine W.rd (.loadAll ag51 (by rfl) rfl (bk.le LM)) rfl rfl rfl ?_
              by_cases hy : mayB hh = true
              · refine W.ef rfl rfl rfl ?_
                refine Ef.call go72 rfl rfl (rmay_T hh hho hy w17_3) ?_
                rintro _ w18_1 ⟨rfl, h18_1⟩
                refine ⟨_, rfl, ?_⟩
                have L18_1 := LM.trans h18_1
                have hnx := may_next hy
                refine W.any (.not rfl) rfl rfl rfl ?_
                refine W.nil ?_
                refine E.thenN ?_
                refine WC.condF rfl ?_
                refine WC.skip ?_
                refine E.thenN ?_
                refine WC.seq ?_
                refine WC.seq ?_
                refine WC.region ?_
                refine W.any (.field0 fa51_0 rfl) rfl rfl rfl ?_
                refine W.rd (.loadB na3 rfl (bk.le L18_1) (rfl)) rfl rfl rfl ?_
                refine W.any (.eql rfl rfl) rfl rfl rfl ?_
                refine W.nil ?_
                refine E.thenN ?_
                refine WC.cond rfl (fun hlast => ?_) (fun hlast => ?_)
                · refine WC.seq ?_
                  refine WC.drawS (fun w21 w' => Blk w' g17_2 51 (hopV hh).toArray ∧ Blk w' g8_4 23 (sh.map u8v).toArray) [0, 1, 2, 3, 4, 5] mixed (by kernel_rfl) ?_
                  intro w21 d21
                  refine ⟨⟨(bk.le L18_1).le d21, (bt.le L18_1).le d21⟩, ?_⟩
                  have L21 := L18_1.trans d21
                  refine GS.rd rfl rfl (fun w' hs => .loadAll ag51 (by rfl) rfl hs.1) rfl rfl rfl ?_
                  refine GS.rd rfl rfl (fun w' hs => .loadAll ag23 (by simp [hsh32]) rfl hs.2) rfl rfl rfl ?_
                  refine GS.ef0 rfl rfl rfl rfl ?_
                  refine Ef.storeAll sz51 (by rfl) rfl rfl ((bh.le L18_1).le d21) (by rfl) (hopV_one _) ?_
                  intro w21_2 b21_2 h21_2
                  have L21_2 : Le w w21_2 := (hL0.trans L21).then_ h21_2 (fun q hq => by cases hq; exact hg0_0)
                  have qf := ((bs.le L18_1).le d21).ch h21_2 (by simp [hne])
                  have tf := ((bt.le L18_1).le d21).ch h21_2 (by simp; omega)
                  have kf := ((bk.le L18_1).le d21).ch h21_2 (by simp; omega)
                  refine ⟨⟨kf, tf⟩, ?_⟩
                  refine GS.any rfl rfl (.assign rfl) rfl rfl rfl ?_
                  refine GS.ef0 rfl rfl rfl rfl ?_
                  refine Ef.storeAll sz23 (by simp [hsh32]) rfl rfl (qf) (by simp [zeros, hsh32]) (all_u8v _) ?_
                  intro w21_4 b21_4 h21_4
                  have L21_4 : Le w w21_4 := L21_2.then_ h21_4 (fun q hq => by cases hq; exact Nat.le_trans h0_0.size hg0_2)
                  have pf := b21_2.ch h21_4 (by simp; exact fun h => hne h.symm)
                  refine ⟨⟨kf.ch h21_4 (by simp; omega), tf.ch h21_4 (by simp; omega)⟩, ?_⟩
                  refine GS.any rfl rfl (.assign rfl) rfl rfl rfl ?_
                  refine GS.nil ?_
                  refine E.thenN ?_
                  refine WC.ret ?_
                  refine E.thenR ?_
                  refine E.retCTCT rfl rfl rfl rfl rfl pf ag51 (by rfl) b21_4 ag23 (by simp [hsh32]) ?_
                  rw [peelB, if_neg (by omega), if_neg (by rw [hl]; decide), if_neg (by rw [keyOk_yes h1 hr]; decide), ← hsh, if_neg (by rw [hmac]; simp), ← hhh, if_neg (by rw [hy]; simp), if_pos (by omega)]; exact ⟨none, 0, 0, rfl, Own.nil _ _ _ _ _, L21_4⟩
                · obtain ⟨nx, hnxd⟩ : ∃ nx, nx = be8 (scale (numB xs) (blindB (numB xs, sh))) ++ (opened (numB xs, sh) ((xs.drop 8).take 640)).drop 80 ++ ((opened (numB xs, sh) ((xs.drop 8).take 640)).drop 48).take 32 := ⟨_, rfl⟩
                  refine WC.skip ?_
                  refine E.thenN ?_
                  refine WC.seq ?_
                  refine WC.draw [0, 1, 2, 6, 7, 3, 4, 5, 8, 9] mixed (by kernel_rfl) ?_
                  intro w22 d22
                  have L22 := L18_1.trans d22
                  refine G.any rfl rfl (.move rfl) rfl rfl rfl ?_
                  refine G.any rfl rfl (.move rfl) rfl rfl rfl ?_
                  refine G.rd rfl rfl (.loadAll ag23 (by simp [hsh32]) rfl (bt.le L22)) rfl rfl rfl ?_
                  refine G.any rfl rfl (.move rfl) rfl rfl rfl ?_
                  refine G.any rfl rfl (.cutL (80) Try.underlying24 sz5 rfl rfl (rfl) (by decide) (o6.cap.1)) rfl rfl rfl ?_
                  refine G.ef rfl rfl rfl rfl rfl ?_
                  refine Ef.call go94 rfl rfl (rblind_ok (numB xs, sh) hsh32 (numB_lt xs) w22) ?_
                  rintro _ w22_3 ⟨rfl, h22_3⟩
                  refine ⟨_, rfl, ?_⟩
                  have L22_3 := L22.trans h22_3
                  refine ⟨fun _ => h22_3, ?_⟩
                  refine G.ef rfl rfl rfl rfl rfl ?_
                  refine Ef.call go92 rfl rfl (rscale_ok _ _ (numB_lt xs) w22_3) ?_
                  rintro _ w22_4 ⟨rfl, h22_4⟩
                  refine ⟨_, rfl, ?_⟩
                  have L22_4 := L22_3.trans h22_4
                  refine ⟨fun _ => h22_4, ?_⟩
                  refine G.ef rfl rfl rfl rfl rfl ?_
                  refine Ef.call go80 rfl rfl (r8_ok _ (scale_64 _ _) w22_4) ?_
                  rintro _ w22_5 ⟨A8, c8, rfl, o8, h22_5⟩
                  refine ⟨_, rfl, ?_⟩
                  have L22_5 := L22_4.trans h22_5
                  refine ⟨fun _ => h22_5, ?_⟩
                  refine G.ef rfl rfl rfl rfl rfl ?_
                  refine Ef.append Try.underlying24 el5 rfl (o8) rfl (((all2.le L22_5).sb.cutL c6 80 (by decide) o6.cap.1).src Try.underlying24 _) (by omega) (by unfold maxLen; omega) (h22_5.size) ?_
                  intro A22_8 c22_8 w22_8 o22_8 h22_8 at22_8
                  have L22_8 : Le w17_3 w22_8 := L22_5.then_ h22_8 (fun q hq => Nat.le_trans L22_4.size (o8.row hq).1)
                  refine ⟨fun h => absurd h (ne_true_of_eq_false (by kernel_rfl)), ?_⟩
                  refine G.any rfl rfl (.assign rfl) rfl rfl rfl ?_
                  refine G.nil ?_
                  refine E.thenN ?_
                  refine WC.seq ?_
                  refine WC.region ?_
                  refine W.any (.move rfl) rfl rfl rfl ?_
                  refine W.any (.move rfl) rfl rfl rfl ?_
                  refine W.any (.cut (48) (80) Try.underlying24 sz5 rfl rfl (rfl) rfl (rfl) (by decide) (by have := o6.cap.1; omega)) rfl rfl rfl ?_
                  refine W.ef rfl rfl rfl ?_
                  refine Ef.append Try.underlying24 el5 rfl (o22_8) rfl (((all2.le L22_8).sb.cut c6 48 80 (by decide) (by decide) o6.cap.1).src Try.underlying24 _) (by omega) (by unfold maxLen; omega) (Nat.le_trans h22_5.size h22_8.size) ?_
                  intro A23_3 c23_3 w23_3 o23_3 h23_3 at23_3
                  have L23_3 : Le w17_3 w23_3 := L22_8.then_ h23_3 (fun q hq => Nat.le_trans L22_4.size (o22_8.row hq).1)
                  have o10 : Own w23_3 w22_4.heap.size 5 1 A23_3 680 c23_3 (nx.map u8v) := o23_3.cast rfl (by rw [hnxd]; simp)
                  refine W.any (.assign rfl) rfl rfl rfl ?_
                  refine W.nil ?_
                  refine E.thenN ?_
                  refine WC.seq ?_
                  refine WC.drawS (fun w24 w' => Blk w' g17_2 51 (hopV hh).toArray ∧ Blk w' g8_4 23 (sh.map u8v).toArray) [0, 1, 2, 3, 4, 5, 6] mixed (by kernel_rfl) ?_
                  intro w24 d24
                  refine ⟨⟨(bk.le L23_3).le d24, (bt.le L23_3).le d24⟩, ?_⟩
                  have L24 := L23_3.trans d24
                  refine GS.rd rfl rfl (fun w' hs => .loadAll ag51 (by rfl) rfl hs.1) rfl rfl rfl ?_
                  refine GS.any rfl rfl (.move rfl) rfl rfl rfl ?_
                  refine GS.rd rfl rfl (fun w' hs => .loadAll ag23 (by simp [hsh32]) rfl hs.2) rfl rfl rfl ?_
                  refine GS.ef0 rfl rfl rfl rfl ?_
                  refine Ef.storeAll sz51 (by rfl) rfl rfl ((bh.le L23_3).le d24) (by rfl) (hopV_one _) ?_
                  intro w24_3 b24_3 h24_3
                  have L24_3 : Le w w24_3 := (hL0.trans L24).then_ h24_3 (fun q hq => by cases hq; exact hg0_0)
                  have qf := ((bs.le L23_3).le d24).ch h24_3 (by simp [hne])
                  have tf := ((bt.le L23_3).le d24).ch h24_3 (by simp; omega)
                  have kf := ((bk.le L23_3).le d24).ch h24_3 (by simp; omega)
                  refine ⟨⟨kf, tf⟩, ?_⟩
                  refine GS.any rfl rfl (.assign rfl) rfl rfl rfl ?_
                  refine GS.ef0 rfl rfl rfl rfl ?_
                  refine Ef.storeAll sz23 (by simp [hsh32]) rfl rfl (qf) (by simp [zeros, hsh32]) (all_u8v _) ?_
                  intro w24_5 b24_5 h24_5
                  have L24_5 : Le w w24_5 := L24_3.then_ h24_5 (fun q hq => by cases hq; exact Nat.le_trans h0_0.size hg0_2)
                  have pf := b24_3.ch h24_5 (by simp; exact fun h => hne h.symm)
                  refine ⟨⟨kf.ch h24_5 (by simp; omega), tf.ch h24_5 (by simp; omega)⟩, ?_⟩
                  refine GS.any rfl rfl (.assign rfl) rfl rfl rfl ?_
                  refine GS.nil ?_
                  refine E.thenN ?_
                  refine WC.ret ?_
                  refine E.retCTCT rfl rfl rfl rfl rfl pf ag51 (by rfl) b24_5 ag23 (by simp [hsh32]) ?_
                  rw [peelB, if_neg (by omega), if_neg (by rw [hl]; decide), if_neg (by rw [keyOk_yes h1 hr]; decide), ← hsh, if_neg (by rw [hmac]; simp), ← hhh, if_neg (by rw [hy]; simp), ← hnxd, if_neg (by omega)]; exact ⟨A23_3, 680, c23_3, rfl, (((o10.mono (hL0.trans L22_4).size).le d24).ch h24_3 (fun q hq => by cases hq; exact fun he => by have := (o10.row he).1; have := L22_4.size; omega)).ch h24_5 (fun q hq => by cases hq; exact fun he => by have := (o10.row he).1; have := L22_4.size; omega), L24_5⟩
              · refine W.ef rfl rfl rfl ?_
                refine Ef.call go72 rfl rfl (rmay_F hh hho (by simpa using hy) w17_3) ?_
                rintro _ w18_1 ⟨rfl, h18_1⟩
                refine ⟨_, rfl, ?_⟩
                have L18_1 := LM.trans h18_1
                refine W.any (.not rfl) rfl rfl rfl ?_
                refine W.nil ?_
                refine E.thenN ?_
                refine WC.condT rfl ?_
                refine WC.seq ?_
                refine WC.region ?_
                refine W.any (.buildF pl51 z51 rfl (show Instr.fill _ _ _ = some (hopV noHop).toArray from rfl)) rfl rfl rfl ?_
                refine W.any (.buildA (cells := ((zeros 32).map u8v).toArray) Try.underlying23 sz5 z23 rfl (by kernel_rfl)) rfl rfl rfl ?_
                have qb := bs.le L18_1
                refine W.ef0 rfl rfl ?_
                refine Ef.storeAll sz51 (by rfl) rfl rfl (bh.le L18_1) (by rfl) (hopV_one _) ?_
                intro w19_2 b19_2 h19_2
                have L19_2 : Le w w19_2 := (hL0.trans L18_1).then_ h19_2 (fun q hq => by cases hq; exact hg0_0)
                have q19 := qb.ch h19_2 (by simp [hne])
                refine W.any (.assign rfl) rfl rfl rfl ?_
                refine W.ef0 rfl rfl ?_
                refine Ef.storeAll sz23 (by rfl) rfl rfl (q19) (by rfl) (all_u8v _) ?_
                intro w19_4 b19_4 h19_4
                have L19_4 : Le w w19_4 := L19_2.then_ h19_4 (fun q hq => by cases hq; exact Nat.le_trans h0_0.size hg0_2)
                have p19 := b19_2.ch h19_4 (by simp; exact fun h => hne h.symm)
                refine W.any (.assign rfl) rfl rfl rfl ?_
                refine W.nil ?_
                refine E.thenN ?_
                refine WC.ret ?_
                refine E.thenR ?_
                refine E.retCTCT rfl rfl rfl rfl rfl p19 ag51 (by rfl) b19_4 ag23 (by rfl) ?_
                rw [peelB, if_neg (by omega), if_neg (by rw [hl]; decide), if_neg (by rw [keyOk_yes h1 hr]; decide), ← hsh, if_neg (by rw [hmac]; simp), ← hhh, if_pos (by simpa using hy)]; exact ⟨none, 0, 0, rfl, Own.nil _ _ _ _ _, L19_4⟩
        · refine W.ef rfl rfl rfl ?_
          refine Ef.call go90 rfl rfl (rpright_F _ (numB_lt xs) (by simpa using hr) w5_1) ?_
          rintro _ w6_1 ⟨rfl, h6_1⟩
          refine ⟨_, rfl, ?_⟩
          have L6_1 := L5_1.trans h6_1
          refine W.any (.not rfl) rfl rfl rfl ?_
          refine W.any (.move rfl) rfl rfl rfl ?_
          refine W.skip rfl rfl rfl (rfl) rfl rfl ?_
          refine W.skip rfl rfl rfl (rfl) rfl rfl ?_
          refine W.any (.pickT rfl rfl rfl) rfl rfl rfl ?_
          refine W.nil ?_
          refine E.thenN ?_
          refine WC.condT rfl ?_
          refine WC.seq ?_
          refine WC.region ?_
          refine W.any (.buildF pl51 z51 rfl (show Instr.fill _ _ _ = some (hopV noHop).toArray from rfl)) rfl rfl rfl ?_
          refine W.any (.buildA (cells := ((zeros 32).map u8v).toArray) Try.underlying23 sz5 z23 rfl (by kernel_rfl)) rfl rfl rfl ?_
          have qb := bs.le L6_1
          refine W.ef0 rfl rfl ?_
          refine Ef.storeAll sz51 (by rfl) rfl rfl (bh.le L6_1) (by rfl) (hopV_one _) ?_
          intro w7_2 b7_2 h7_2
          have L7_2 : Le w w7_2 := (hL0.trans L6_1).then_ h7_2 (fun q hq => by cases hq; exact hg0_0)
          have q7 := qb.ch h7_2 (by simp [hne])
          refine W.any (.assign rfl) rfl rfl rfl ?_
          refine W.ef0 rfl rfl ?_
          refine Ef.storeAll sz23 (by rfl) rfl rfl (q7) (by rfl) (all_u8v _) ?_
          intro w7_4 b7_4 h7_4
          have L7_4 : Le w w7_4 := L7_2.then_ h7_4 (fun q hq => by cases hq; exact Nat.le_trans h0_0.size hg0_2)
          have p7 := b7_2.ch h7_4 (by simp; exact fun h => hne h.symm)
          refine W.any (.assign rfl) rfl rfl rfl ?_
          refine W.nil ?_
          refine E.thenN ?_
          refine WC.ret ?_
          refine E.thenR ?_
          refine E.retCTCT rfl rfl rfl rfl rfl p7 ag51 (by rfl) b7_4 ag23 (by rfl) ?_
          rw [peelB, if_neg (by omega), if_neg (by rw [hl]; decide), if_pos (keyOk_no (by simpa using hr))]; exact ⟨none, 0, 0, rfl, Own.nil _ _ _ _ _, L7_4⟩
  · refine W.ef rfl rfl rfl ?_
    refine Ef.call go88 rfl rfl (rfright_F kk hq w0_2) ?_
    rintro _ w1_1 ⟨rfl, h1_1⟩
    refine ⟨_, rfl, ?_⟩
    have L1_1 := LL.trans h1_1
    refine W.any (.not rfl) rfl rfl rfl ?_
    refine W.any (.move rfl) rfl rfl rfl ?_
    refine W.skip rfl rfl rfl (rfl) rfl rfl ?_
    refine W.skip rfl rfl rfl (rfl) rfl rfl ?_
    refine W.any (.pickT rfl rfl rfl) rfl rfl rfl ?_
    refine W.nil ?_
    refine E.thenN ?_
    refine WC.condT rfl ?_
    refine WC.seq ?_
    refine WC.region ?_
    refine W.any (.buildF pl51 z51 rfl (show Instr.fill _ _ _ = some (hopV noHop).toArray from rfl)) rfl rfl rfl ?_
    refine W.any (.buildA (cells := ((zeros 32).map u8v).toArray) Try.underlying23 sz5 z23 rfl (by kernel_rfl)) rfl rfl rfl ?_
    have qb := bs.le L1_1
    refine W.ef0 rfl rfl ?_
    refine Ef.storeAll sz51 (by rfl) rfl rfl (bh.le L1_1) (by rfl) (hopV_one _) ?_
    intro w2_2 b2_2 h2_2
    have L2_2 : Le w w2_2 := (hL0.trans L1_1).then_ h2_2 (fun q hq => by cases hq; exact hg0_0)
    have q2 := qb.ch h2_2 (by simp [hne])
    refine W.any (.assign rfl) rfl rfl rfl ?_
    refine W.ef0 rfl rfl ?_
    refine Ef.storeAll sz23 (by rfl) rfl rfl (q2) (by rfl) (all_u8v _) ?_
    intro w2_4 b2_4 h2_4
    have L2_4 : Le w w2_4 := L2_2.then_ h2_4 (fun q hq => by cases hq; exact Nat.le_trans h0_0.size hg0_2)
    have p2 := b2_2.ch h2_4 (by simp; exact fun h => hne h.symm)
    refine W.any (.assign rfl) rfl rfl rfl ?_
    refine W.nil ?_
    refine E.thenN ?_
    refine WC.ret ?_
    refine E.thenR ?_
    refine E.retCTCT rfl rfl rfl rfl rfl p2 ag51 (by rfl) b2_4 ag23 (by rfl) ?_
    rw [peelB, if_pos (.inr (by omega))]; exact ⟨none, 0, 0, rfl, Own.nil _ _ _ _ _, L2_4⟩
end Go.Proofs.Ytpmjdiccekkadaa
