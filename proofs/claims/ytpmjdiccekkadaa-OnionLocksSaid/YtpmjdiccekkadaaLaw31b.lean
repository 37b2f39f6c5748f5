/- The statements OnionMacs and OnionPeels walked: they answer true and leave old memory as it was. -/
import Derived.Test.YtpmjdiccekkadaaLaw31
namespace Go.Proofs.Ytpmjdiccekkadaa
open Go Go.Sx Go.Hsp Go.Num Go.Osp
set_option maxRecDepth 20000
theorem peel_sum_len (k : Nat) (p : List Byte) : (peelB k p).2.2.1.length = 32 := by
  rcases peel_cases k p with ⟨e, he, _⟩ | ⟨_, _, _, _, _, _, he⟩
  · rw [he]; rfl
  · rw [he]; exact sharedB_length _
theorem xor_bit_ne (x : Byte) (j : Nat) (hj : j < 8) : ¬ (x ^^^ (1#8 <<< j) = x) := fun h => by
  have := congrArg (fun y => x ^^^ y) h
  simp only [← BitVec.xor_assoc, BitVec.xor_self, BitVec.zero_xor] at this
  have h8 : j = 0 ∨ j = 1 ∨ j = 2 ∨ j = 3 ∨ j = 4 ∨ j = 5 ∨ j = 6 ∨ j = 7 := by omega
  rcases h8 with rfl | rfl | rfl | rfl | rfl | rfl | rfl | rfl <;> exact absurd this (by decide)
theorem mac_wrong (k : Nat) (p : List Byte) (i : Nat) (b : Byte) (hl : p.length = 680) (h : (peelB k p).2.2.2 = 0) (hi : 648 ≤ i ∧ i < 680) (hb : b ≠ p.getD i 0) : (peelB k (p.set i b)).2.2.2 = 18 := by
  refine peel_mac k p _ h (by rw [List.length_set, hl]) (by rw [List.take_set_of_le hi.1]) (fun he => ?_)
  have h1 := congrArg (fun x : List Byte => x[i - 648]?) he
  simp only [List.getElem?_drop] at h1
  rw [show 648 + (i - 648) = i by omega, List.getElem?_set_self (by omega), List.getElem?_eq_getElem (by omega)] at h1
  rw [List.getD_eq_getElem?_getD, List.getElem?_eq_getElem (by omega)] at hb
  exact hb (Option.some.inj h1)
set_option maxHeartbeats 2000000 in
theorem OnionMacs_ok (kk : Nat) (hkk : kk < 18446744073709551616) {A : Option Addr} {n c : Nat} {bit : Int} {xs : List Byte} (w : World) (hS : Sb w A n xs) (hc : n ≤ c) (hnr : n ≤ 9223372036854775807) (hh : -9223372036854775808 ≤ bit ∧ bit ≤ 9223372036854775807) : Calls Try.prog 11 #[.int .u64 ((kk : Nat) : Int), .slice A n c, .int .i64 bit] w fun e w' => e = .returned (.bool true) ∧ Le w w' := by
  refine enter Try.func11 rfl rfl ?_
  have L0 := Le.refl w
  refine WC.seq ?_
  refine WC.region ?_
  refine W.any (.assign rfl) rfl rfl rfl ?_
  refine W.nil ?_
  refine E.thenN ?_
  refine WC.seq ?_
  refine WC.region ?_
  refine W.ef rfl rfl rfl ?_
  refine Ef.call go26 rfl rfl (small31_ok w) ?_
  rintro _ w1_0 ⟨rfl, h1_0⟩
  refine ⟨_, rfl, ?_⟩
  have L1_0 := L0.trans h1_0
  refine W.any (.assign rfl) rfl rfl rfl ?_
  refine W.nil ?_
  refine E.thenN ?_
  refine WC.seq ?_
  refine WC.seq ?_
  refine WC.region ?_
  refine W.any (.move rfl) rfl rfl rfl ?_
  by_cases q1 : bit < 0
  · refine W.any (.dec (.lss rfl rfl) (decide_eq_true (by omega))) rfl rfl rfl ?_
    refine W.any (.move rfl) rfl rfl rfl ?_
    refine W.skip rfl rfl rfl (rfl) rfl rfl ?_
    refine W.skip rfl rfl rfl (rfl) rfl rfl ?_
    refine W.any (.pickT rfl rfl rfl) rfl rfl rfl ?_
    refine W.nil ?_
    refine E.thenN ?_
    refine WC.condT rfl ?_
    refine WC.seq ?_
    refine WC.region ?_
    refine W.any (.move rfl) rfl rfl rfl ?_
    refine W.any (.assign rfl) rfl rfl rfl ?_
    refine W.nil ?_
    refine E.thenN ?_
    refine WC.ret ?_
    refine E.thenR ?_
    refine E.ret1 rfl rfl ?_
    exact ⟨rfl, L1_0⟩
  · refine W.any (.dec (.lss rfl rfl) (decide_eq_false (by omega))) rfl rfl rfl ?_
    refine W.any (.move rfl) rfl rfl rfl ?_
    refine W.rdg (Any.rd (.move rfl) _) rfl rfl rfl (rfl) rfl rfl ?_
    by_cases q2 : 255 < bit
    · refine W.rdg (Any.rd (.dec (.gtr rfl rfl) (decide_eq_true (by omega))) _) rfl rfl rfl (rfl) rfl rfl ?_
      refine W.any (.pickF rfl rfl rfl) rfl rfl rfl ?_
      refine W.nil ?_
      refine E.thenN ?_
      refine WC.condT rfl ?_
      refine WC.seq ?_
      refine WC.region ?_
      refine W.any (.move rfl) rfl rfl rfl ?_
      refine W.any (.assign rfl) rfl rfl rfl ?_
      refine W.nil ?_
      refine E.thenN ?_
      refine WC.ret ?_
      refine E.thenR ?_
      refine E.ret1 rfl rfl ?_
      exact ⟨rfl, L1_0⟩
    · refine W.rdg (Any.rd (.dec (.gtr rfl rfl) (decide_eq_false (by omega))) _) rfl rfl rfl (rfl) rfl rfl ?_
      refine W.any (.pickF rfl rfl rfl) rfl rfl rfl ?_
      refine W.nil ?_
      refine E.thenN ?_
      refine WC.condF rfl ?_
      refine WC.skip ?_
      refine E.thenN ?_
      refine WC.seq ?_
      refine WC.region ?_
      refine W.any (.move rfl) rfl rfl rfl ?_
      refine W.any (.move rfl) rfl rfl rfl ?_
      refine W.ef rfl rfl rfl ?_
      refine Ef.call go31 rfl rfl (peel_ok kk hkk w1_0 (hS.le L1_0) hc) ?_
      rintro _ w4_2 ⟨A4, m4, c4, e, s4, h4_2⟩
      subst e
      refine ⟨_, rfl, ?_⟩
      have L4_2 := L1_0.trans h4_2
      refine W.any (.move rfl) rfl rfl rfl ?_
      refine W.any (.extract rfl rfl) rfl rfl rfl ?_
      refine W.any (.extract rfl rfl) rfl rfl rfl ?_
      refine W.any (.extract rfl rfl) rfl rfl rfl ?_
      refine W.any (.extract rfl rfl) rfl rfl rfl ?_
      refine W.ef rfl rfl rfl ?_
      refine Ef.allocA z51 ?_
      intro g4_8 w4_8 hg4_8 b4_8 h4_8
      have L4_8 := L4_2.trans h4_8
      refine W.ef rfl rfl rfl ?_
      refine Ef.allocA z23 ?_
      intro g4_9 w4_9 hg4_9 b4_9 h4_9
      have L4_9 := L4_8.trans h4_9
      refine W.ef0 rfl rfl ?_
      refine Ef.storeAll sz51 (by rfl) rfl rfl (b4_8.le h4_9) (by rfl) (hopV_one _) ?_
      intro w4_10 b4_10 h4_10
      have L4_10 : Le w w4_10 := L4_9.then_ h4_10 (fun q hq => by cases hq; exact Nat.le_trans L4_2.size hg4_8)
      refine W.any (.assign rfl) rfl rfl rfl ?_
      refine W.ef0 rfl rfl ?_
      refine Ef.storeAll sz23 (by simp [peel_sum_len]) rfl rfl (b4_9.ch h4_10 (by simp; have := b4_8.lt; omega)) (by simp [peel_sum_len]) (all_u8v _) ?_
      intro w4_12 b4_12 h4_12
      have L4_12 : Le w w4_12 := L4_10.then_ h4_12 (fun q hq => by cases hq; exact Nat.le_trans L4_8.size hg4_9)
      have bh4 := b4_10.ch h4_12 (by simp; have := b4_8.lt; omega)
      have LP4 : Le w4_2 w4_12 := ((h4_8.trans h4_9).then_ h4_10 (fun q hq => by cases hq; exact hg4_8)).then_ h4_12 (fun q hq => by cases hq; exact Nat.le_trans h4_8.size hg4_9)
      refine W.any (.assign rfl) rfl rfl rfl ?_
      refine W.nil ?_
      refine E.thenN ?_
      refine WC.seq ?_
      refine WC.seq ?_
      refine WC.region ?_
      refine W.any (.move rfl) rfl rfl rfl ?_
      refine W.any (.neq rfl rfl) rfl rfl rfl ?_
      refine W.nil ?_
      refine E.thenN ?_
      refine WC.cond rfl (fun herr => ?_) (fun herr => ?_)
      · obtain ⟨z1, z2, z3⟩ := peel_err kk xs herr
        rw [z1] at bh4
        rw [z3] at b4_12
        refine WC.seq ?_
        refine WC.region ?_
        refine W.any (.move rfl) rfl rfl rfl ?_
        refine W.any (.move rfl) rfl rfl rfl ?_
        refine W.rdg (.loadAll ag51 (by rfl) rfl (bh4)) rfl rfl rfl (rfl) rfl rfl ?_
        refine W.rdg (Any.rd (.buildF pl51 z51 rfl (show Instr.fill _ _ _ = some (hopV noHop).toArray from rfl)) _) rfl rfl rfl (rfl) rfl rfl ?_
        refine W.rdg (Any.rd (.dec (.eqA eg51 rfl rfl (eqv_hop (d := 9998) _ _)) (decide_eq_true rfl)) _) rfl rfl rfl (rfl) rfl rfl ?_
        refine W.any (.pickT rfl rfl rfl) rfl rfl rfl ?_
        refine W.any (.move rfl) rfl rfl rfl ?_
        refine W.rdg (Any.rd (.move rfl) _) rfl rfl rfl (rfl) rfl rfl ?_
        refine W.rdg (.len Try.underlying24 rfl) rfl rfl rfl (rfl) rfl rfl ?_
        refine W.rdg (Any.rd (.dec (.eql rfl rfl) (decide_eq_true (by have := s4.1; rw [z2, List.map_nil, List.length_nil] at this; omega))) _) rfl rfl rfl (rfl) rfl rfl ?_
        refine W.any (.pickT rfl rfl rfl) rfl rfl rfl ?_
        refine W.any (.move rfl) rfl rfl rfl ?_
        refine W.rdg (.loadAll ag23 (by rfl) rfl (b4_12)) rfl rfl rfl (rfl) rfl rfl ?_
        refine W.rdg (Any.rd (.buildA (cells := ((zeros 32).map u8v).toArray) Try.underlying23 sz5 z23 rfl (by kernel_rfl)) _) rfl rfl rfl (rfl) rfl rfl ?_
        refine W.rdg (Any.rd (.dec (.eqA eg23 rfl rfl (Eqv.bytes (d := 9998) (zeros 32) (zeros 32) Try.underlying23 sz5 Try.underlying5 rfl rfl)) (decide_eq_true rfl)) _) rfl rfl rfl (rfl) rfl rfl ?_
        refine W.any (.pickT rfl rfl rfl) rfl rfl rfl ?_
        refine W.any (.assign rfl) rfl rfl rfl ?_
        refine W.nil ?_
        refine E.thenN ?_
        refine WC.ret ?_
        refine E.thenR ?_
        refine E.ret1 rfl rfl ?_
        exact ⟨rfl, L4_12⟩
      · have h0 : (peelB kk xs).2.2.2 = 0 := Classical.not_not.1 herr
        obtain ⟨g1, g2⟩ := peel_good kk xs h0
        have hn680 : n = 680 := by have := hS.len; omega
        have hm4 : m4 = (peelB kk xs).2.1.length := by have := s4.1; rw [List.length_map] at this; omega
        obtain ⟨bi, rfl⟩ : ∃ bi : Nat, bit = bi := ⟨bit.toNat, by omega⟩
        refine WC.skip ?_
        refine E.thenN ?_
        refine WC.seq ?_
        refine WC.seq ?_
        refine WC.region ?_
        refine W.any (.move rfl) rfl rfl rfl ?_
        refine W.rd (.len Try.underlying24 rfl) rfl rfl rfl ?_
        refine W.any (.dec (.neq rfl rfl) (decide_eq_false (by omega))) rfl rfl rfl ?_
        refine W.any (.move rfl) rfl rfl rfl ?_
        refine W.rdg (Any.rd (.field0 fa51_0 rfl) _) rfl rfl rfl (rfl) rfl rfl ?_
        refine W.rdg (.loadB na3 rfl (bh4) (rfl)) rfl rfl rfl (rfl) rfl rfl ?_
        refine W.rdg (Any.rd (.eql rfl rfl) _) rfl rfl rfl (rfl) rfl rfl ?_
        refine W.rdg (Any.rd (.move rfl) _) rfl rfl rfl (rfl) rfl rfl ?_
        refine W.rdg (.len Try.underlying24 rfl) rfl rfl rfl (rfl) rfl rfl ?_
        refine W.rdg (Any.rd (.eql rfl rfl) _) rfl rfl rfl (rfl) rfl rfl ?_
        refine W.rdg (Any.rd (.dec (.bneq Try.underlying4 rfl rfl) (show _ = false from by rw [show decide ((peelB kk xs).1.1 = -1) = decide ((m4 : Int) = 0) from decide_eq_decide.2 (by rw [g2]; omega)]; simp)) _) rfl rfl rfl (rfl) rfl rfl ?_
        refine W.any (.pickF rfl rfl rfl) rfl rfl rfl ?_
        refine W.nil ?_
        refine E.thenN ?_
        refine WC.condF rfl ?_
        refine WC.skip ?_
        refine E.thenN ?_
        refine WC.seq ?_
        refine WC.region ?_
        refine W.ef rfl rfl rfl ?_
        refine Ef.buildSlice0 Try.underlying24 el5 ?_
        intro g9_0 w9_0 hg9_0 b9_0 h9_0
        have L9_0 := L4_12.trans h9_0
        refine W.any (.move rfl) rfl rfl rfl ?_
        refine W.ef rfl rfl rfl ?_
        refine Ef.append Try.underlying24 el5 rfl ((b9_0.own_ (n := 0) (c := 0) (s := 1) hg9_0 (Nat.le_refl _) rfl (by decide)).cast rfl rfl) rfl ((hS.le L9_0).src Try.underlying24 _) (by omega) (by unfold maxLen; omega) (h9_0.size) ?_
        intro A9_2 c9_2 w9_2 o9_2 h9_2 at9_2
        have L9_2 : Le w w9_2 := L9_0.then_ h9_2 (fun q hq => by simp [rowOf_zero] at hq)
        subst hn680
        have ow : Sx.Own w9_2 w4_12.heap.size 5 1 A9_2 680 c9_2 (xs.map u8v) := o9_2.cast (by decide) (by simp)
        obtain ⟨gw, rfl, hgw, hgw2, hgwr⟩ := ow.lit (by decide)
        have hbi : bi / 8 < 32 ∧ bi % 8 < 8 := by omega
        refine W.any (.assign rfl) rfl rfl rfl ?_
        refine W.nil ?_
        refine E.thenN ?_
        refine WC.seq ?_
        refine WC.draw [0, 1, 2, 3, 4, 5, 6, 7, 8, 9, 10, 11, 12, 13, 14, 15] mixed (by kernel_rfl) ?_
        intro w10 d10
        have L10 := L9_2.trans d10
        refine G.any rfl rfl (.move rfl) rfl rfl rfl ?_
        refine G.any rfl rfl (.move rfl) rfl rfl rfl ?_
        refine G.any rfl rfl (.as (Any.quo rfl rfl (by omega)) (show _ = Value.int .i64 ((bi / 8 : Nat) : Int) by congr 1)) rfl rfl rfl ?_
        refine G.any rfl rfl (.add rfl rfl (by omega)) rfl rfl rfl ?_
        refine G.any rfl rfl (.move rfl) rfl rfl rfl ?_
        refine G.any rfl rfl (.move rfl) rfl rfl rfl ?_
        refine G.any rfl rfl (.as (Any.quo rfl rfl (by omega)) (show _ = Value.int .i64 ((bi / 8 : Nat) : Int) by congr 1)) rfl rfl rfl ?_
        refine G.any rfl rfl (.add rfl rfl (by omega)) rfl rfl rfl ?_
        refine G.any rfl rfl (.idxB1 (648 + bi / 8) Try.underlying24 sz5 rfl rfl (by omega) (by omega)) rfl rfl rfl ?_
        refine G.rd rfl rfl (.load na5 rfl (((ow.le d10).sl.2 (648 + bi / 8) _ (getb xs (by omega))).elim fun ad h => by obtain ⟨h1, h2⟩ := h; injection h1 with h1; subst h1; rw [add_lit, Nat.zero_add] at h2; exact h2)) rfl rfl rfl ?_
        refine G.any rfl rfl (.move rfl) rfl rfl rfl ?_
        refine G.any rfl rfl (.as (Any.rem rfl rfl (by omega)) (show _ = Value.int .i64 ((bi % 8 : Nat) : Int) by congr 1)) rfl rfl rfl ?_
        refine G.any rfl rfl (.shl8 (a := 1#8) (bi % 8) rfl rfl rfl (by omega)) rfl rfl rfl ?_
        refine G.any rfl rfl (.xor8 rfl rfl) rfl rfl rfl ?_
        refine G.any rfl rfl (.idxB1 (648 + bi / 8) Try.underlying24 sz5 rfl rfl (by omega) (by omega)) rfl rfl rfl ?_
        refine G.ef0 rfl rfl rfl rfl ?_
        refine Ef.storeO sz5 rfl rfl (ow.le d10) (by omega) (rfl) ?_
        intro w10_15 o10_15 h10_15
        have L10_15 : Le w w10_15 := L10.then_ h10_15 (fun q hq => by cases hq; exact Nat.le_trans L4_12.size hgw)
        refine ⟨fun h => absurd h (ne_true_of_eq_false (by kernel_rfl)), ?_⟩
        have ow2 : Sx.Own w10_15 w4_12.heap.size 5 1 (some ⟨gw, 0, none⟩) 680 c9_2 ((xs.set (648 + bi / 8) (xs.getD (648 + bi / 8) 0 ^^^ (1#8 <<< (bi % 8)))).map u8v) := o10_15.cast rfl (by rw [List.map_set])
        have hw18 := mac_wrong kk xs (648 + bi / 8) _ g1 h0 (by omega) (xor_bit_ne (xs.getD (648 + bi / 8) 0) (bi % 8) hbi.2)
        have hS2 : Sb w10_15 A 680 xs := hS.le L10_15
        refine G.nil ?_
        refine E.thenN ?_
        refine WC.seq ?_
        refine WC.region ?_
        refine W.any (.move rfl) rfl rfl rfl ?_
        refine W.any (.move rfl) rfl rfl rfl ?_
        refine W.ef rfl rfl rfl ?_
        refine Ef.call go31 rfl rfl (peel_ok kk hkk w10_15 ow2.sb ow2.cap.1) ?_
        rintro _ w11_2 ⟨A11, m11, c11, e, s11, h11_2⟩
        rw [hw18] at e; subst e
        refine ⟨_, rfl, ?_⟩
        have L11_2 := L10_15.trans h11_2
        refine W.any (.move rfl) rfl rfl rfl ?_
        refine W.any (.extract rfl rfl) rfl rfl rfl ?_
        refine W.any (.extract rfl rfl) rfl rfl rfl ?_
        refine W.any (.extract rfl rfl) rfl rfl rfl ?_
        refine W.any (.extract rfl rfl) rfl rfl rfl ?_
        refine W.ef rfl rfl rfl ?_
        refine Ef.allocA z51 ?_
        intro g11_8 w11_8 hg11_8 b11_8 h11_8
        have L11_8 := L11_2.trans h11_8
        refine W.ef rfl rfl rfl ?_
        refine Ef.allocA z23 ?_
        intro g11_9 w11_9 hg11_9 b11_9 h11_9
        have L11_9 := L11_8.trans h11_9
        refine W.ef0 rfl rfl ?_
        refine Ef.storeAll sz51 (by rfl) rfl rfl (b11_8.le h11_9) (by rfl) (hopV_one _) ?_
        intro w11_10 b11_10 h11_10
        have L11_10 : Le w w11_10 := L11_9.then_ h11_10 (fun q hq => by cases hq; exact Nat.le_trans L11_2.size hg11_8)
        refine W.any (.assign rfl) rfl rfl rfl ?_
        refine W.ef0 rfl rfl ?_
        refine Ef.storeAll sz23 (by simp [peel_sum_len]) rfl rfl (b11_9.ch h11_10 (by simp; have := b11_8.lt; omega)) (by simp [peel_sum_len]) (all_u8v _) ?_
        intro w11_12 b11_12 h11_12
        have L11_12 : Le w w11_12 := L11_10.then_ h11_12 (fun q hq => by cases hq; exact Nat.le_trans L11_8.size hg11_9)
        have bh11 := b11_10.ch h11_12 (by simp; have := b11_8.lt; omega)
        have LP11 : Le w11_2 w11_12 := ((h11_8.trans h11_9).then_ h11_10 (fun q hq => by cases hq; exact hg11_8)).then_ h11_12 (fun q hq => by cases hq; exact Nat.le_trans h11_8.size hg11_9)
        refine W.any (.assign rfl) rfl rfl rfl ?_
        refine W.nil ?_
        refine E.thenN ?_
        refine WC.seq ?_
        refine WC.region ?_
        refine W.any (.move rfl) rfl rfl rfl ?_
        refine W.ef rfl rfl rfl ?_
        refine Ef.call go31 rfl rfl (peel_ok 2305843009213688669 (by decide) w11_12 (hS.le L11_12) hc) ?_
        rintro _ w12_1 ⟨A12, m12, c12, e, s12, h12_1⟩
        rw [peel_none 2305843009213688669 xs (.inr (Nat.le_refl _))] at e; subst e
        refine ⟨_, rfl, ?_⟩
        have L12_1 := L11_12.trans h12_1
        refine W.any (.move rfl) rfl rfl rfl ?_
        refine W.any (.extract rfl rfl) rfl rfl rfl ?_
        refine W.any (.extract rfl rfl) rfl rfl rfl ?_
        refine W.any (.extract rfl rfl) rfl rfl rfl ?_
        refine W.any (.extract rfl rfl) rfl rfl rfl ?_
        refine W.ef rfl rfl rfl ?_
        refine Ef.allocA z51 ?_
        intro g12_7 w12_7 hg12_7 b12_7 h12_7
        have L12_7 := L12_1.trans h12_7
        refine W.ef rfl rfl rfl ?_
        refine Ef.allocA z23 ?_
        intro g12_8 w12_8 hg12_8 b12_8 h12_8
        have L12_8 := L12_7.trans h12_8
        refine W.ef0 rfl rfl ?_
        refine Ef.storeAll sz51 (by rfl) rfl rfl (b12_7.le h12_8) (by rfl) (hopV_one _) ?_
        intro w12_9 b12_9 h12_9
        have L12_9 : Le w w12_9 := L12_8.then_ h12_9 (fun q hq => by cases hq; exact Nat.le_trans L12_1.size hg12_7)
        refine W.any (.assign rfl) rfl rfl rfl ?_
        refine W.ef0 rfl rfl ?_
        refine Ef.storeAll sz23 (by simp [peel_sum_len]) rfl rfl (b12_8.ch h12_9 (by simp; have := b12_7.lt; omega)) (by simp [peel_sum_len]) (all_u8v _) ?_
        intro w12_11 b12_11 h12_11
        have L12_11 : Le w w12_11 := L12_9.then_ h12_11 (fun q hq => by cases hq; exact Nat.le_trans L12_7.size hg12_8)
        have bh12 := b12_9.ch h12_11 (by simp; have := b12_7.lt; omega)
        have LP12 : Le w12_1 w12_11 := ((h12_7.trans h12_8).then_ h12_9 (fun q hq => by cases hq; exact hg12_7)).then_ h12_11 (fun q hq => by cases hq; exact Nat.le_trans h12_7.size hg12_8)
        refine W.any (.assign rfl) rfl rfl rfl ?_
        refine W.nil ?_
        refine E.thenN ?_
        refine WC.seq ?_
        refine WC.region ?_
        refine W.any (.move rfl) rfl rfl rfl ?_
        refine W.any (.move rfl) rfl rfl rfl ?_
        refine W.rdg (Any.rd (.move rfl) _) rfl rfl rfl (rfl) rfl rfl ?_
        refine W.rdg (Any.rd (.dec (.eql rfl rfl) (decide_eq_true (by decide))) _) rfl rfl rfl (rfl) rfl rfl ?_
        refine W.any (.pickT rfl rfl rfl) rfl rfl rfl ?_
        refine W.any (.move rfl) rfl rfl rfl ?_
        refine W.rdg (Any.rd (.move rfl) _) rfl rfl rfl (rfl) rfl rfl ?_
        refine W.rdg (Any.rd (.dec (.eql rfl rfl) (decide_eq_true (by decide))) _) rfl rfl rfl (rfl) rfl rfl ?_
        refine W.any (.pickT rfl rfl rfl) rfl rfl rfl ?_
        refine W.any (.assign rfl) rfl rfl rfl ?_
        refine W.nil ?_
        refine E.thenN ?_
        refine WC.ret ?_
        refine E.ret1 rfl rfl ?_
        exact ⟨rfl, L12_11⟩

theorem shared_any (seed : List Byte) (hse : seed.length = 32) {A : Option Addr} {n c : Nat} {ks : List Nat} (w : World) (hK : Sl w 1 A n (ks.map pv)) (hks : ∀ k ∈ ks, k < 18446744073709551616) (hn : n ≤ 1000000) : Calls Try.prog 29 #[.slice A n c, .agg (seed.map u8v).toArray] w fun e w' => ∃ v1 v2, e = .returned (.tuple #[v1, v2]) ∧ Le w w' := by
  by_cases hk : keysOk ks = true
  · exact (shared_T seed hse w hK hks hn hk).mono fun e w' ⟨A', c', h, _, hl⟩ => ⟨_, _, h, hl⟩
  · exact (shared_F seed hse w hK hks hn (by simpa using hk)).mono fun e w' ⟨h, hl⟩ => ⟨_, _, h, hl⟩

set_option maxHeartbeats 4000000 in
theorem OnionPeels_ok {A Ah : Option Addr} {n c nh ch : Nat} {ks : List Nat} {hs : List Hop} {seed : List Byte} (hse : seed.length = 32) (w : World) (hK : Sl w 1 A n (ks.map pv)) (hH : Rws w 6 Ah nh (hs.map hopV)) (hhs : ∀ h ∈ hs, HopOk h) (hnk : n ≤ 9223372036854775807) (_hnh : nh ≤ 9223372036854775807) : Calls Try.prog 10 #[.slice A n c, .slice Ah nh ch, .agg (seed.map u8v).toArray] w fun e w' => e = .returned (.bool true) ∧ Le w w' := by
  refine enter Try.func10 rfl rfl ?_
  have L0 := Le.refl w
  refine WC.seq ?_
  refine WC.region ?_
  refine W.ef rfl rfl rfl ?_
  refine Ef.boxA rfl ?_
  intro g0_0 w0_0 hg0_0 b0_0 h0_0
  have L0_0 := L0.trans h0_0
  have LL := Le.refl w0_0
  have hK := hK.le h0_0
  have hH := hH.le h0_0
  have hkl := hK.1
  rw [List.length_map, Nat.mul_one] at hkl
  have hhl := hH.1
  rw [List.length_map] at hhl
  refine W.any (.assign rfl) rfl rfl rfl ?_
  refine W.nil ?_
  refine E.thenN ?_
  refine WC.seq ?_
  refine WC.region ?_
  refine W.ef rfl rfl rfl ?_
  refine Ef.call go26 rfl rfl (small31_ok w0_0) ?_
  rintro _ w1_0 ⟨rfl, h1_0⟩
  refine ⟨_, rfl, ?_⟩
  have L1_0 := LL.trans h1_0
  refine W.any (.assign rfl) rfl rfl rfl ?_
  refine W.nil ?_
  refine E.thenN ?_
  refine WC.seq ?_
  refine WC.seq ?_
  refine WC.region ?_
  refine W.any (.move rfl) rfl rfl rfl ?_
  refine W.rd (.len Try.underlying55 rfl) rfl rfl rfl ?_
  by_cases q1 : 8 < n
  · refine W.any (.dec (.gtr rfl rfl) (decide_eq_true (by omega))) rfl rfl rfl ?_
    refine W.any (.move rfl) rfl rfl rfl ?_
    refine W.skip rfl rfl rfl (rfl) rfl rfl ?_
    refine W.skip rfl rfl rfl (rfl) rfl rfl ?_
    refine W.skip rfl rfl rfl (rfl) rfl rfl ?_
    refine W.skip rfl rfl rfl (rfl) rfl rfl ?_
    refine W.skip rfl rfl rfl (rfl) rfl rfl ?_
    refine W.any (.pickT rfl rfl rfl) rfl rfl rfl ?_
    refine W.nil ?_
    refine E.thenN ?_
    refine WC.condT rfl ?_
    refine WC.seq ?_
    refine WC.region ?_
    refine W.any (.move rfl) rfl rfl rfl ?_
    refine W.any (.assign rfl) rfl rfl rfl ?_
    refine W.nil ?_
    refine E.thenN ?_
    refine WC.ret ?_
    refine E.thenR ?_
    refine E.ret1 rfl rfl ?_
    exact ⟨rfl, h0_0.trans L1_0⟩
  · refine W.any (.dec (.gtr rfl rfl) (decide_eq_false (by omega))) rfl rfl rfl ?_
    refine W.any (.move rfl) rfl rfl rfl ?_
    refine W.rdg (Any.rd (.move rfl) _) rfl rfl rfl (rfl) rfl rfl ?_
    refine W.rdg (.len Try.underlying55 rfl) rfl rfl rfl (rfl) rfl rfl ?_
    refine W.rdg (Any.rd (.move rfl) _) rfl rfl rfl (rfl) rfl rfl ?_
    refine W.rdg (.len Try.underlying42 rfl) rfl rfl rfl (rfl) rfl rfl ?_
    by_cases q2 : n = nh
    · refine W.rdg (Any.rd (.dec (.neq rfl rfl) (decide_eq_false (by omega))) _) rfl rfl rfl (rfl) rfl rfl ?_
      refine W.any (.pickF rfl rfl rfl) rfl rfl rfl ?_
      refine W.nil ?_
      refine E.thenN ?_
      refine WC.condF rfl ?_
      refine WC.skip ?_
      refine E.thenN ?_
      refine WC.seq ?_
      refine WC.region ?_
      refine W.any (.assign rfl) rfl rfl rfl ?_
      refine W.nil ?_
      refine E.thenN ?_
      refine WC.seq ?_
      refine WC.seq ?_
      refine WC.region ?_
      refine W.any (.assign rfl) rfl rfl rfl ?_
      refine W.nil ?_
      refine E.thenN ?_
      refine WC.block ?_
      refine WC.loop (ι := Nat × Option Addr × Nat) (fun ⟨k, Ap, cp⟩ => [(0, .slice A n c), (1, .slice Ah nh ch), (5, .pointer (some ⟨g0_0, 0, none⟩)), (7, .bool true), (8, .slice Ap k cp), (9, .int .i64 (k : Int))]) (fun ⟨k, Ap, cp⟩ wl => k ≤ n ∧ Le w0_0 wl ∧ Sx.Own wl w0_0.heap.size 49 1 Ap k cp (((ks.take k).map base).map pv) ∧ Blk wl g0_0 23 (seed.map u8v).toArray ∧ ∀ x ∈ ks.take k, x ≠ 0 ∧ x < q) (fun ⟨k, Ap, cp⟩ => n - k) (0, none, 0) ?_ ?_ ?_
      · exact .cons rfl (.cons rfl (.cons rfl (.cons rfl (.cons rfl (.cons rfl (.nil _))))))
      · exact ⟨Nat.zero_le _, L1_0, Own.nil _ _ _ _ _, b0_0.le h1_0, fun x hx => by simp at hx⟩
      · rintro ⟨k, Ap, cp⟩ wl ⟨hk, Ll, op, bs, hall⟩
        refine WC.seq ?_
        refine WC.seq ?_
        refine WC.region ?_
        refine W.any (.move rfl) rfl rfl rfl ?_
        refine W.any (.move rfl) rfl rfl rfl ?_
        refine W.rd (.len Try.underlying55 rfl) rfl rfl rfl ?_
        refine W.any (.lss rfl rfl) rfl rfl rfl ?_
        refine W.nil ?_
        refine E.thenN ?_
        refine WC.cond rfl (fun c1 => ?_) (fun c1 => ?_)
        · have hx := getn ks (show k < ks.length by omega)
          refine WC.skip ?_
          refine E.thenN ?_
          refine WC.seq ?_
          refine WC.block ?_
          refine WC.seq ?_
          refine WC.seq ?_
          refine WC.region ?_
          refine W.any (.move rfl) rfl rfl rfl ?_
          refine W.any (.move rfl) rfl rfl rfl ?_
          refine W.any (.idxS1 (k) Try.underlying55 sz48 rfl rfl (hK.isSome (j := k) (by omega) (by decide)) (rfl) (by omega)) rfl rfl rfl ?_
          refine W.rd (.loadS na48 rfl (hK.le Ll) (getp ks (by omega))) rfl rfl rfl ?_
          by_cases hz : ks.getD k 0 = 0
          · refine W.any (.dec (.eql rfl rfl) (decide_eq_true (by omega))) rfl rfl rfl ?_
            refine W.any (.move rfl) rfl rfl rfl ?_
            refine W.skip rfl rfl rfl (rfl) rfl rfl ?_
            refine W.skip rfl rfl rfl (rfl) rfl rfl ?_
            refine W.skip rfl rfl rfl (rfl) rfl rfl ?_
            refine W.skip rfl rfl rfl (rfl) rfl rfl ?_
            refine W.skip rfl rfl rfl (rfl) rfl rfl ?_
            refine W.any (.pickT rfl rfl rfl) rfl rfl rfl ?_
            refine W.nil ?_
            refine E.thenN ?_
            refine WC.condT rfl ?_
            refine WC.seq ?_
            refine WC.region ?_
            refine W.any (.move rfl) rfl rfl rfl ?_
            refine W.any (.assign rfl) rfl rfl rfl ?_
            refine W.nil ?_
            refine E.thenN ?_
            refine WC.ret ?_
            refine E.thenR ?_
            refine E.blkR ?_
            refine E.thenR ?_
            refine E.thenR ?_
            refine E.blkR ?_
            refine E.thenR ?_
            refine E.ret1 rfl rfl ?_
            exact ⟨rfl, h0_0.trans Ll⟩
          · refine W.any (.dec (.eql rfl rfl) (decide_eq_false (by omega))) rfl rfl rfl ?_
            refine W.any (.move rfl) rfl rfl rfl ?_
            refine W.rdg (Any.rd (.move rfl) _) rfl rfl rfl (rfl) rfl rfl ?_
            refine W.rdg (Any.rd (.move rfl) _) rfl rfl rfl (rfl) rfl rfl ?_
            refine W.rdg (Any.rd (.idxS1 (k) Try.underlying55 sz48 rfl rfl (hK.isSome (j := k) (by omega) (by decide)) (rfl) (by omega)) _) rfl rfl rfl (rfl) rfl rfl ?_
            refine W.rdg (.loadS na48 rfl (hK.le Ll) (getp ks (by omega))) rfl rfl rfl (rfl) rfl rfl ?_
            by_cases hlt : ks.getD k 0 < 2305843009213688669
            · refine W.rdg (Any.rd (.dec (.geq rfl rfl) (decide_eq_false (by omega))) _) rfl rfl rfl (rfl) rfl rfl ?_
              refine W.any (.pickF rfl rfl rfl) rfl rfl rfl ?_
              refine W.nil ?_
              refine E.thenN ?_
              refine WC.condF rfl ?_
              refine WC.skip ?_
              refine E.thenN ?_
              refine WC.region ?_
              refine W.any (.move rfl) rfl rfl rfl ?_
              refine W.any (.move rfl) rfl rfl rfl ?_
              refine W.any (.move rfl) rfl rfl rfl ?_
              refine W.any (.idxS1 (k) Try.underlying55 sz48 rfl rfl (hK.isSome (j := k) (by omega) (by decide)) (rfl) (by omega)) rfl rfl rfl ?_
              refine W.rd (.loadS na48 rfl (hK.le Ll) (getp ks (by omega))) rfl rfl rfl ?_
              refine W.ef rfl rfl rfl ?_
              refine Ef.call go33 rfl rfl (base_ok _ wl) ?_
              rintro _ w10_5 ⟨rfl, h10_5⟩
              refine ⟨_, rfl, ?_⟩
              have L10_5 := Ll.trans h10_5
              refine W.ef rfl rfl rfl ?_
              refine Ef.buildSlice1 Try.underlying41 el49 rfl rfl ?_
              intro g10_6 w10_6 hg10_6 b10_6 h10_6
              have L10_6 := L10_5.trans h10_6
              refine W.ef rfl rfl rfl ?_
              refine Ef.append Try.underlying41 el49 rfl (op.le (h10_5.trans h10_6)) rfl (b10_6.src1 Try.underlying41 rfl) (by omega) (by unfold maxLen; omega) (L10_6.size) ?_
              intro A10_7 c10_7 w10_7 o10_7 h10_7 at10_7
              have L10_7 : Le w0_0 w10_7 := L10_6.then_ h10_7 (fun q hq => (op.row hq).1)
              have bs2 := (bs.le (h10_5.trans h10_6)).ch h10_7 (fun he => by have := (op.row he).1; have := b0_0.lt; omega)
              refine W.any (.assign rfl) rfl rfl rfl ?_
              refine W.nil ?_
              refine E.blkN ?_
              refine E.thenN ?_
              refine WC.region ?_
              refine W.any (.move rfl) rfl rfl rfl ?_
              refine W.any (.add rfl rfl (by omega)) rfl rfl rfl ?_
              refine W.any (.assign rfl) rfl rfl rfl ?_
              refine W.nil ?_
              refine E.again (k + 1, A10_7, c10_7) (.cons rfl (.cons rfl (.cons rfl (.cons rfl (.cons rfl (.cons rfl (.nil _))))))) ?_ ?_
              · exact ⟨by omega, L10_7, o10_7.cast rfl (by rw [map_snoc base ks k _ hx, List.map_append]; rfl), bs2, fun x hxm => by
                  rw [List.take_add_one, hx] at hxm
                  rcases List.mem_append.1 hxm with hxm | hxm
                  · exact hall x hxm
                  · simp at hxm; subst hxm; exact ⟨by simpa using hz, by simpa [q_def] using hlt⟩⟩
              · first | omega | (simp only []; omega)
            · refine W.rdg (Any.rd (.dec (.geq rfl rfl) (decide_eq_true (by omega))) _) rfl rfl rfl (rfl) rfl rfl ?_
              refine W.any (.pickF rfl rfl rfl) rfl rfl rfl ?_
              refine W.nil ?_
              refine E.thenN ?_
              refine WC.condT rfl ?_
              refine WC.seq ?_
              refine WC.region ?_
              refine W.any (.move rfl) rfl rfl rfl ?_
              refine W.any (.assign rfl) rfl rfl rfl ?_
              refine W.nil ?_
              refine E.thenN ?_
              refine WC.ret ?_
              refine E.thenR ?_
              refine E.blkR ?_
              refine E.thenR ?_
              refine E.thenR ?_
              refine E.blkR ?_
              refine E.thenR ?_
              refine E.ret1 rfl rfl ?_
              exact ⟨rfl, h0_0.trans Ll⟩
        · have hkn : n = k := by omega
          subst hkn
          rw [List.take_of_length_le (by omega)] at op hall
          refine WC.exit ?_
          refine E.thenX ?_
          refine E.thenX ?_
          refine E.blkH ?_
          refine E.thenN ?_
          refine WC.seq ?_
          refine WC.region ?_
          refine W.any (.move rfl) rfl rfl rfl ?_
          refine W.any (.move rfl) rfl rfl rfl ?_
          refine W.rd (.loadAll ag23 (by simp [hse]) rfl (bs)) rfl rfl rfl ?_
          by_cases hok : (keysOk (ks.map base) && hopsOk (ks.map base) hs) = true
          · have hpts : ∀ k ∈ ks.map base, k < 18446744073709551616 := fun k hk => by obtain ⟨x, _, rfl⟩ := List.mem_map.1 hk; exact base_lt x
            refine W.ef rfl rfl rfl ?_
            refine Ef.call go27 rfl rfl (wrap_T seed hse wl op.sl hpts (by omega) (hH.le Ll) hhs (by omega) hok) ?_
            rintro _ w11_3 ⟨Aw, cw, rfl, ow, h11_3⟩
            refine ⟨_, rfl, ?_⟩
            have L11_3 := Ll.trans h11_3
            refine W.any (.move rfl) rfl rfl rfl ?_
            refine W.any (.extract rfl rfl) rfl rfl rfl ?_
            refine W.any (.extract rfl rfl) rfl rfl rfl ?_
            refine W.any (.assign rfl) rfl rfl rfl ?_
            refine W.any (.assign rfl) rfl rfl rfl ?_
            refine W.nil ?_
            refine E.thenN ?_
            refine WC.seq ?_
            refine WC.region ?_
            refine W.any (.move rfl) rfl rfl rfl ?_
            refine W.rd (.loadAll ag23 (by simp [hse]) rfl (bs.le h11_3)) rfl rfl rfl ?_
            refine W.ef rfl rfl rfl ?_
            refine Ef.call go29 rfl rfl (shared_T seed hse w11_3 (op.le h11_3).sl hpts (by omega) (by rw [Bool.and_eq_true] at hok; exact hok.1)) ?_
            rintro _ w12_2 ⟨As, cs, rfl, osh, h12_2⟩
            refine ⟨_, rfl, ?_⟩
            have L12_2 := L11_3.trans h12_2
            rw [Bool.and_eq_true] at hok
            have hwl : (wayB (startX seed) (ks.map base)).length = n := by rw [wayB_length, List.length_map, hkl]
            obtain ⟨sums, hsums⟩ : ∃ sums, sums = (wayB (startX seed) (ks.map base)).map Prod.snd := ⟨_, rfl⟩
            rw [← hsums] at osh
            have hsl : sums.length = n := by rw [hsums, List.length_map, hwl]
            have hs32 : ∀ q ∈ sums, q.length = 32 := fun q hq => by rw [hsums] at hq; obtain ⟨s, hs, rfl⟩ := List.mem_map.1 hq; exact wayB_sum _ _ s hs
            have hKs := ks_own osh hsl hs32
            have hsat : ∀ i, i < n → sums[i]? = some (((wayB (startX seed) (ks.map base)).getD i (0, [])).2) := fun i hi => by rw [hsums, List.getElem?_map, getst _ (by omega)]; rfl
            have hpk := fun i hi => peel_at ks hs seed hall hok.2 hhs (by omega) i hi
            have hpl := fun i hi => pkt_length (ks.map base) hs seed (by simp; omega) (by simp; omega) i hi
            have hn1 : 1 ≤ n := by have := hok.1; rw [keysOk] at this; simp at this; omega
            have hp0 := pkt_zero (ks.map base) hs seed (by simp; omega)
            have hpe := pkt_end (ks.map base) hs seed n (by simp; omega)
            have LW := Le.refl w12_2
            have hL2 := L12_2
            have ow5 := ow.le h12_2
            rw [← hp0] at ow5
            have hK5 := hK.le L12_2
            have hH5 := hH.le L12_2
            refine W.any (.move rfl) rfl rfl rfl ?_
            refine W.any (.extract rfl rfl) rfl rfl rfl ?_
            refine W.any (.extract rfl rfl) rfl rfl rfl ?_
            refine W.any (.assign rfl) rfl rfl rfl ?_
            refine W.any (.assign rfl) rfl rfl rfl ?_
            refine W.nil ?_
            refine E.thenN ?_
            refine WC.seq ?_
            refine WC.seq ?_
            refine WC.region ?_
            refine W.any (.move rfl) rfl rfl rfl ?_
            refine W.any (.dec (.neq rfl rfl) (decide_eq_false (by decide))) rfl rfl rfl ?_
            refine W.nil ?_
            refine E.thenN ?_
            refine WC.condF rfl ?_
            refine WC.skip ?_
            refine E.thenN ?_
            refine WC.seq ?_
            refine WC.seq ?_
            refine WC.region ?_
            refine W.any (.move rfl) rfl rfl rfl ?_
            refine W.any (.dec (.neq rfl rfl) (decide_eq_false (by decide))) rfl rfl rfl ?_
            refine W.any (.move rfl) rfl rfl rfl ?_
            refine W.rdg (Any.rd (.move rfl) _) rfl rfl rfl (rfl) rfl rfl ?_
            refine W.rdg (.len Try.underlying25 rfl) rfl rfl rfl (rfl) rfl rfl ?_
            refine W.rdg (Any.rd (.move rfl) _) rfl rfl rfl (rfl) rfl rfl ?_
            refine W.rdg (.len Try.underlying55 rfl) rfl rfl rfl (rfl) rfl rfl ?_
            refine W.rdg (Any.rd (.dec (.neq rfl rfl) (decide_eq_false (by omega))) _) rfl rfl rfl (rfl) rfl rfl ?_
            refine W.any (.pickF rfl rfl rfl) rfl rfl rfl ?_
            refine W.nil ?_
            refine E.thenN ?_
            refine WC.condF rfl ?_
            refine WC.skip ?_
            refine E.thenN ?_
            refine WC.seq ?_
            refine WC.seq ?_
            refine WC.region ?_
            refine W.any (.assign rfl) rfl rfl rfl ?_
            refine W.nil ?_
            refine E.thenN ?_
            refine WC.block ?_
            refine WC.loop (ι := Nat × Option Addr × Nat × Nat) (fun ⟨i, Ak, m, ck⟩ => [(0, .slice A n c), (1, .slice Ah nh ch), (7, .bool true), (10, .slice Ak m ck), (12, .slice As n cs), (14, .int .i64 (i : Int))]) (fun ⟨i, Ak, m, ck⟩ wl => i ≤ n ∧ Le w12_2 wl ∧ Sb wl Ak m (pkt (ks.map base) hs seed i) ∧ m ≤ ck) (fun ⟨i, Ak, m, ck⟩ => n - i) (0, Aw, 680, cw) ?_ ?_ ?_
            · exact .cons rfl (.cons rfl (.cons rfl (.cons rfl (.cons rfl (.cons rfl (.nil _))))))
            · exact ⟨Nat.zero_le _, LW, ow5.sb, ow.cap.1⟩
            · rintro ⟨i, Ak, m, ck⟩ wl ⟨hi, Ll, sk, hck⟩
              refine WC.seq ?_
              refine WC.seq ?_
              refine WC.region ?_
              refine W.any (.move rfl) rfl rfl rfl ?_
              refine W.any (.move rfl) rfl rfl rfl ?_
              refine W.rd (.len Try.underlying55 rfl) rfl rfl rfl ?_
              refine W.any (.lss rfl rfl) rfl rfl rfl ?_
              refine W.nil ?_
              refine E.thenN ?_
              refine WC.cond rfl (fun c5 => ?_) (fun c5 => ?_)
              · have hin : i < n := by omega
                have hm680 : m = 680 := by have := sk.len; rw [hpl i (by simp; omega)] at this; omega
                have hoi := getn ks (show i < ks.length by omega)
                have hpi := hpk i (by omega)
                have hol2 : ks.getD i 0 < 18446744073709551616 := Nat.lt_trans (hall _ (List.mem_of_getElem? hoi)).2 q_lt
                have hsi := hsat i hin
                have hq32 := hs32 _ (List.mem_of_getElem? hsi)
                generalize hqs : ((wayB (startX seed) (ks.map base)).getD i (0, [])).2 = qs at *
                refine WC.skip ?_
                refine E.thenN ?_
                refine WC.seq ?_
                refine WC.block ?_
                refine WC.seq ?_
                refine WC.seq ?_
                refine WC.region ?_
                refine W.any (.move rfl) rfl rfl rfl ?_
                refine W.rd (.len Try.underlying24 rfl) rfl rfl rfl ?_
                refine W.any (.dec (.neq rfl rfl) (decide_eq_false (by omega))) rfl rfl rfl ?_
                refine W.nil ?_
                refine E.thenN ?_
                refine WC.condF rfl ?_
                refine WC.skip ?_
                refine E.thenN ?_
                refine WC.seq ?_
                refine WC.region ?_
                refine W.any (.move rfl) rfl rfl rfl ?_
                refine W.any (.move rfl) rfl rfl rfl ?_
                refine W.any (.idxS1 (i) Try.underlying55 sz48 rfl rfl (hK.isSome (j := i) (by omega) (by decide)) (rfl) (by omega)) rfl rfl rfl ?_
                refine W.rd (.loadS na48 rfl (hK5.le Ll) (getp ks (by omega))) rfl rfl rfl ?_
                refine W.any (.move rfl) rfl rfl rfl ?_
                refine W.ef rfl rfl rfl ?_
                refine Ef.call go31 rfl rfl (peel_ok _ hol2 wl sk hck) ?_
                rintro _ w22_5 ⟨A22, m22, c22, e, s22, h22_5⟩
                rw [hpi] at e s22; subst e
                refine ⟨_, rfl, ?_⟩
                have L22_5 := Ll.trans h22_5
                refine W.any (.move rfl) rfl rfl rfl ?_
                refine W.any (.extract rfl rfl) rfl rfl rfl ?_
                refine W.any (.extract rfl rfl) rfl rfl rfl ?_
                refine W.any (.extract rfl rfl) rfl rfl rfl ?_
                refine W.any (.extract rfl rfl) rfl rfl rfl ?_
                refine W.ef rfl rfl rfl ?_
                refine Ef.allocA z51 ?_
                intro g22_11 w22_11 hg22_11 b22_11 h22_11
                have L22_11 := L22_5.trans h22_11
                refine W.ef rfl rfl rfl ?_
                refine Ef.allocA z23 ?_
                intro g22_12 w22_12 hg22_12 b22_12 h22_12
                have L22_12 := L22_11.trans h22_12
                refine W.ef0 rfl rfl ?_
                refine Ef.storeAll sz51 (by rfl) rfl rfl (b22_11.le h22_12) (by rfl) (hopV_one _) ?_
                intro w22_13 b22_13 h22_13
                have L22_13 : Le w12_2 w22_13 := L22_12.then_ h22_13 (fun q hq => by cases hq; exact Nat.le_trans L22_5.size hg22_11)
                refine W.any (.assign rfl) rfl rfl rfl ?_
                refine W.ef0 rfl rfl ?_
                refine Ef.storeAll sz23 (by simp [hq32]) rfl rfl (b22_12.ch h22_13 (by simp; have := b22_11.lt; omega)) (by simp [hq32]) (all_u8v _) ?_
                intro w22_15 b22_15 h22_15
                have L22_15 : Le w12_2 w22_15 := L22_13.then_ h22_15 (fun q hq => by cases hq; exact Nat.le_trans L22_11.size hg22_12)
                have bh22 := b22_13.ch h22_15 (by simp; have := b22_11.lt; omega)
                have LP22 : Le w22_5 w22_15 := ((h22_11.trans h22_12).then_ h22_13 (fun q hq => by cases hq; exact hg22_11)).then_ h22_15 (fun q hq => by cases hq; exact Nat.le_trans h22_11.size hg22_12)
                refine W.any (.assign rfl) rfl rfl rfl ?_
                refine W.nil ?_
                refine E.thenN ?_
                refine WC.seq ?_
                refine WC.seq ?_
                refine WC.draw [0, 1, 2, 3, 4, 5, 6, 7, 8, 9, 10, 11, 12, 13, 14, 15, 16, 17] mixed (by kernel_rfl) ?_
                intro w23 d23
                have L23 := L22_15.trans d23
                refine G.any rfl rfl (.move rfl) rfl rfl rfl ?_
                refine G.any rfl rfl (.dec (.neq rfl rfl) (decide_eq_false (fun h => h rfl))) rfl rfl rfl ?_
                refine G.any rfl rfl (.move rfl) rfl rfl rfl ?_
                refine G.rdg rfl rfl (.loadAll ag51 (by rfl) rfl (bh22.le d23)) rfl rfl rfl (rfl) rfl rfl ?_
                refine G.anyg rfl rfl (.move rfl) rfl rfl rfl (rfl) rfl rfl ?_
                refine G.anyg rfl rfl (.move rfl) rfl rfl rfl (rfl) rfl rfl ?_
                refine G.anyg rfl rfl (.idxS (i) Try.underlying42 sz51 rfl rfl (hH.isSome (by omega) (by decide)) (rfl) (by omega)) rfl rfl rfl (rfl) rfl rfl ?_
                refine G.rdg rfl rfl (.loadR ag51 rfl (hH5.le L23) (hopRows_at hs i (by omega)) (by decide)) rfl rfl rfl (rfl) rfl rfl ?_
                refine G.anyg rfl rfl (.dec (.neA eg51 rfl rfl (eqv_hop (d := 9998) _ _)) (show _ = false from by rw [decide_eq_true rfl]; rfl)) rfl rfl rfl (rfl) rfl rfl ?_
                refine G.any rfl rfl (.pickF rfl rfl rfl) rfl rfl rfl ?_
                refine G.any rfl rfl (.move rfl) rfl rfl rfl ?_
                refine G.rdg rfl rfl (.loadAll ag23 (by simp [hq32]) rfl (b22_15.le d23)) rfl rfl rfl (rfl) rfl rfl ?_
                refine G.anyg rfl rfl (.move rfl) rfl rfl rfl (rfl) rfl rfl ?_
                refine G.anyg rfl rfl (.move rfl) rfl rfl rfl (rfl) rfl rfl ?_
                refine G.anyg rfl rfl (.idxS (i) Try.underlying25 sz23 rfl rfl (hKs.2.2.isSome (j := i) (by omega) (by decide)) (rfl) (by omega)) rfl rfl rfl (rfl) rfl rfl ?_
                refine G.rdg rfl rfl (.loadK ag23 rfl (hKs.le L23) hsi (by decide)) rfl rfl rfl (rfl) rfl rfl ?_
                refine G.anyg rfl rfl (.dec (.neA eg23 rfl rfl (Eqv.bytes (d := 9998) _ _ Try.underlying23 sz5 Try.underlying5 hq32 hq32)) (show _ = false from by rw [decide_eq_true rfl]; rfl)) rfl rfl rfl (rfl) rfl rfl ?_
                refine G.any rfl rfl (.pickF rfl rfl rfl) rfl rfl rfl ?_
                refine G.nil ?_
                refine E.thenN ?_
                refine WC.condF rfl ?_
                refine WC.skip ?_
                refine E.thenN ?_
                refine WC.region ?_
                refine W.any (.move rfl) rfl rfl rfl ?_
                refine W.any (.assign rfl) rfl rfl rfl ?_
                refine W.nil ?_
                refine E.blkN ?_
                refine E.thenN ?_
                refine WC.region ?_
                refine W.any (.move rfl) rfl rfl rfl ?_
                refine W.any (.add rfl rfl (by omega)) rfl rfl rfl ?_
                refine W.any (.assign rfl) rfl rfl rfl ?_
                refine W.nil ?_
                refine E.again (i + 1, A22, m22, c22) (.cons rfl (.cons rfl (.cons rfl (.cons rfl (.cons rfl (.cons rfl (.nil _))))))) ?_ ?_
                · exact ⟨by omega, L23, ((s22.le LP22).le d23).sb, s22.cap.1⟩
                · first | omega | (simp only []; omega)
              · have hih : n = i := by omega
                subst hih
                rw [hpe] at sk
                refine WC.exit ?_
                refine E.thenX ?_
                refine E.thenX ?_
                refine E.blkH ?_
                refine E.thenN ?_
                refine WC.seq ?_
                refine WC.region ?_
                refine W.any (.move rfl) rfl rfl rfl ?_
                refine W.any (.move rfl) rfl rfl rfl ?_
                refine W.rdg (Any.rd (.move rfl) _) rfl rfl rfl (rfl) rfl rfl ?_
                refine W.rdg (.len Try.underlying24 rfl) rfl rfl rfl (rfl) rfl rfl ?_
                refine W.rdg (Any.rd (.dec (.eql rfl rfl) (decide_eq_true (by have := sk.len; simp at this; omega))) _) rfl rfl rfl (rfl) rfl rfl ?_
                refine W.any (.pickT rfl rfl rfl) rfl rfl rfl ?_
                refine W.any (.assign rfl) rfl rfl rfl ?_
                refine W.nil ?_
                refine E.thenN ?_
                refine WC.ret ?_
                refine E.ret1 rfl rfl ?_
                exact ⟨rfl, h0_0.trans (hL2.trans Ll)⟩
          · have hpts : ∀ k ∈ ks.map base, k < 18446744073709551616 := fun k hk => by obtain ⟨x, _, rfl⟩ := List.mem_map.1 hk; exact base_lt x
            refine W.ef rfl rfl rfl ?_
            refine Ef.call go27 rfl rfl (wrap_F seed hse wl op.sl hpts (by omega) (hH.le Ll) hhs (by omega) (by simpa using hok)) ?_
            rintro _ w11_3 ⟨rfl, h11_3⟩
            refine ⟨_, rfl, ?_⟩
            have L11_3 := Ll.trans h11_3
            refine W.any (.move rfl) rfl rfl rfl ?_
            refine W.any (.extract rfl rfl) rfl rfl rfl ?_
            refine W.any (.extract rfl rfl) rfl rfl rfl ?_
            refine W.any (.assign rfl) rfl rfl rfl ?_
            refine W.any (.assign rfl) rfl rfl rfl ?_
            refine W.nil ?_
            refine E.thenN ?_
            refine WC.seq ?_
            refine WC.region ?_
            refine W.any (.move rfl) rfl rfl rfl ?_
            refine W.rd (.loadAll ag23 (by simp [hse]) rfl (bs.le h11_3)) rfl rfl rfl ?_
            refine W.ef rfl rfl rfl ?_
            refine Ef.call go29 rfl rfl (shared_any seed hse w11_3 (op.le h11_3).sl hpts (by omega)) ?_
            rintro _ w12_2 ⟨v1, v2, rfl, h12_2⟩
            refine ⟨_, rfl, ?_⟩
            have L12_2 := L11_3.trans h12_2
            refine W.any (.move rfl) rfl rfl rfl ?_
            refine W.any (.extract rfl rfl) rfl rfl rfl ?_
            refine W.any (.extract rfl rfl) rfl rfl rfl ?_
            refine W.any (.assign rfl) rfl rfl rfl ?_
            refine W.any (.assign rfl) rfl rfl rfl ?_
            refine W.nil ?_
            refine E.thenN ?_
            refine WC.seq ?_
            refine WC.seq ?_
            refine WC.region ?_
            refine W.any (.move rfl) rfl rfl rfl ?_
            refine W.any (.dec (.neq rfl rfl) (decide_eq_true (by decide))) rfl rfl rfl ?_
            refine W.nil ?_
            refine E.thenN ?_
            refine WC.condT rfl ?_
            refine WC.seq ?_
            refine WC.region ?_
            refine W.any (.move rfl) rfl rfl rfl ?_
            refine W.any (.move rfl) rfl rfl rfl ?_
            refine W.rdg (Any.rd (.move rfl) _) rfl rfl rfl (rfl) rfl rfl ?_
            refine W.rdg (Any.rd (.dec (.eql rfl rfl) (decide_eq_true (by decide))) _) rfl rfl rfl (rfl) rfl rfl ?_
            refine W.any (.pickT rfl rfl rfl) rfl rfl rfl ?_
            refine W.any (.move rfl) rfl rfl rfl ?_
            refine W.rdg (Any.rd (.move rfl) _) rfl rfl rfl (rfl) rfl rfl ?_
            refine W.rdg (.len Try.underlying24 rfl) rfl rfl rfl (rfl) rfl rfl ?_
            refine W.rdg (Any.rd (.dec (.eql rfl rfl) (decide_eq_true (by decide))) _) rfl rfl rfl (rfl) rfl rfl ?_
            refine W.any (.pickT rfl rfl rfl) rfl rfl rfl ?_
            refine W.any (.assign rfl) rfl rfl rfl ?_
            refine W.nil ?_
            refine E.thenN ?_
            refine WC.ret ?_
            refine E.thenR ?_
            refine E.ret1 rfl rfl ?_
            exact ⟨rfl, h0_0.trans L12_2⟩
    · refine W.rdg (Any.rd (.dec (.neq rfl rfl) (decide_eq_true (by omega))) _) rfl rfl rfl (rfl) rfl rfl ?_
      refine W.any (.pickF rfl rfl rfl) rfl rfl rfl ?_
      refine W.nil ?_
      refine E.thenN ?_
      refine WC.condT rfl ?_
      refine WC.seq ?_
      refine WC.region ?_
      refine W.any (.move rfl) rfl rfl rfl ?_
      refine W.any (.assign rfl) rfl rfl rfl ?_
      refine W.nil ?_
      refine E.thenN ?_
      refine WC.ret ?_
      refine E.thenR ?_
      refine E.ret1 rfl rfl ?_
      exact ⟨rfl, h0_0.trans L1_0⟩
end Go.Proofs.Ytpmjdiccekkadaa
