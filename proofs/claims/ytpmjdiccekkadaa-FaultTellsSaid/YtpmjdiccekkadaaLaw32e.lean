/- The statement FaultTells walked: it answers true and leaves old memory as it was. -/
import Derived.Test.YtpmjdiccekkadaaLaw32d
import Derived.Test.YtpmjdiccekkadaaRef32
namespace Go.Proofs.Ytpmjdiccekkadaa
open Go Go.Sx Go.Hsp
set_option maxRecDepth 20000
theorem makeB_len (key r : List Byte) : (makeB key r).1.length ≤ 64 := by
  rw [makeB]; split
  · rename_i h; show (sealB _ _).length ≤ 64; rw [sealB_length, rowB_length r h]; decide
  · simp
theorem addB_le (key p : List Byte) : (addB key p).1.length ≤ p.length + 8 := by
  rw [addB]; split
  · show (sealB _ _).length ≤ _; rw [sealB_length]; exact Nat.le_refl _
  · simp
theorem FaultTells_ok (key r p : List Byte) (hk : key.length = 32) {Ar Ap A : Option Addr} {nr cr n c nk ck : Nat} {keys : List (List Byte)} (w : World) (hR : Sb w Ar nr r) (hS : Sb w Ap n p) (hK : Ks w 32 A nk keys) (hc : n ≤ c) (hnr : nr ≤ 9223372036854775807) (hn : n ≤ 9223372036854775807) (hnk : nk ≤ 9223372036854775807) : Calls Try.prog 3 #[.agg (key.map u8v).toArray, .slice Ar nr cr, .slice Ap n c, .slice A nk ck] w fun e w' => e = .returned (.bool true) ∧ Le w w' := by
  refine enter Try.func3 rfl rfl ?_
  have L0 := Le.refl w
  refine WC.seq ?_
  refine WC.region ?_
  refine W.ef rfl rfl rfl ?_
  refine Ef.boxA rfl ?_
  intro g0_0 w0_0 hg0_0 b0_0 h0_0
  have L0_0 := L0.trans h0_0
  refine W.any (.assign rfl) rfl rfl rfl ?_
  refine W.nil ?_
  refine E.thenN ?_
  refine WC.seq ?_
  refine WC.region ?_
  refine W.ef rfl rfl rfl ?_
  refine Ef.call go15 rfl rfl (small_ok w0_0) ?_
  rintro _ w1_0 ⟨rfl, h1_0⟩
  refine ⟨_, rfl, ?_⟩
  have L1_0 := L0_0.trans h1_0
  refine W.any (.assign rfl) rfl rfl rfl ?_
  refine W.nil ?_
  refine E.thenN ?_
  refine WC.seq ?_
  refine WC.seq ?_
  refine WC.region ?_
  refine W.any (.move rfl) rfl rfl rfl ?_
  refine W.rd (.len Try.underlying24 rfl) rfl rfl rfl ?_
  by_cases q1 : 300 < nr
  · refine W.any (.dec (.gtr rfl rfl) (decide_eq_true (by omega))) rfl rfl rfl ?_
    refine W.any (.move rfl) rfl rfl rfl ?_
    refine W.skip rfl rfl rfl (rfl) rfl rfl ?_
    refine W.skip rfl rfl rfl (rfl) rfl rfl ?_
    refine W.skip rfl rfl rfl (rfl) rfl rfl ?_
    refine W.any (.pickT rfl rfl rfl) rfl rfl rfl ?_
    refine W.any (.move rfl) rfl rfl rfl ?_
    refine W.skip rfl rfl rfl (rfl) rfl rfl ?_
    refine W.skip rfl rfl rfl (rfl) rfl rfl ?_
    refine W.skip rfl rfl rfl (rfl) rfl rfl ?_
    refine W.any (.pickT rfl rfl rfl) rfl rfl rfl ?_
    refine W.nil ?_
    refine E.thenN ?_
    refine WC.condT rfl ?_
    refine WC.seq ?_
    refine WC.region ?_
    refine W.any (.move rfl) rfl rfl rfl ?_
    refine W.any (.assign rfl) rfl rfl rfl ?_
    refine W.nil ?_
    refine E.thenN ?_
    refine WC.ret ?_
    refine E.thenR ?_
    refine E.ret1 rfl rfl ?_
    exact ⟨rfl, L1_0⟩
  · refine W.any (.dec (.gtr rfl rfl) (decide_eq_false (by omega))) rfl rfl rfl ?_
    refine W.any (.move rfl) rfl rfl rfl ?_
    refine W.rdg (Any.rd (.move rfl) _) rfl rfl rfl (rfl) rfl rfl ?_
    refine W.rdg (.len Try.underlying24 rfl) rfl rfl rfl (rfl) rfl rfl ?_
    by_cases q2 : 300 < n
    · refine W.rdg (Any.rd (.dec (.gtr rfl rfl) (decide_eq_true (by omega))) _) rfl rfl rfl (rfl) rfl rfl ?_
      refine W.any (.pickF rfl rfl rfl) rfl rfl rfl ?_
      refine W.any (.move rfl) rfl rfl rfl ?_
      refine W.skip rfl rfl rfl (rfl) rfl rfl ?_
      refine W.skip rfl rfl rfl (rfl) rfl rfl ?_
      refine W.skip rfl rfl rfl (rfl) rfl rfl ?_
      refine W.any (.pickT rfl rfl rfl) rfl rfl rfl ?_
      refine W.nil ?_
      refine E.thenN ?_
      refine WC.condT rfl ?_
      refine WC.seq ?_
      refine WC.region ?_
      refine W.any (.move rfl) rfl rfl rfl ?_
      refine W.any (.assign rfl) rfl rfl rfl ?_
      refine W.nil ?_
      refine E.thenN ?_
      refine WC.ret ?_
      refine E.thenR ?_
      refine E.ret1 rfl rfl ?_
      exact ⟨rfl, L1_0⟩
    · refine W.rdg (Any.rd (.dec (.gtr rfl rfl) (decide_eq_false (by omega))) _) rfl rfl rfl (rfl) rfl rfl ?_
      refine W.any (.pickF rfl rfl rfl) rfl rfl rfl ?_
      refine W.any (.move rfl) rfl rfl rfl ?_
      refine W.rdg (Any.rd (.move rfl) _) rfl rfl rfl (rfl) rfl rfl ?_
      refine W.rdg (.len Try.underlying25 rfl) rfl rfl rfl (rfl) rfl rfl ?_
      by_cases q3 : 12 < nk
      · refine W.rdg (Any.rd (.dec (.gtr rfl rfl) (decide_eq_true (by omega))) _) rfl rfl rfl (rfl) rfl rfl ?_
        refine W.any (.pickF rfl rfl rfl) rfl rfl rfl ?_
        refine W.nil ?_
        refine E.thenN ?_
        refine WC.condT rfl ?_
        refine WC.seq ?_
        refine WC.region ?_
        refine W.any (.move rfl) rfl rfl rfl ?_
        refine W.any (.assign rfl) rfl rfl rfl ?_
        refine W.nil ?_
        refine E.thenN ?_
        refine WC.ret ?_
        refine E.thenR ?_
        refine E.ret1 rfl rfl ?_
        exact ⟨rfl, L1_0⟩
      · refine W.rdg (Any.rd (.dec (.gtr rfl rfl) (decide_eq_false (by omega))) _) rfl rfl rfl (rfl) rfl rfl ?_
        refine W.any (.pickF rfl rfl rfl) rfl rfl rfl ?_
        refine W.nil ?_
        refine E.thenN ?_
        refine WC.condF rfl ?_
        refine WC.skip ?_
        refine E.thenN ?_
        refine WC.seq ?_
        refine WC.region ?_
        refine W.rd (.loadAll ag23 (by simp [hk]) rfl (b0_0.le h1_0)) rfl rfl rfl ?_
        refine W.any (.move rfl) rfl rfl rfl ?_
        refine W.ef rfl rfl rfl ?_
        refine Ef.call go16 rfl rfl (make_ok key r hk w1_0 (hR.le L1_0)) ?_
        rintro _ w4_2 ⟨A4_2, n4_2, c4_2, rfl, s4_2, k4_2, h4_2⟩
        refine ⟨_, rfl, ?_⟩
        have L4_2 := L1_0.trans h4_2
        refine W.any (.move rfl) rfl rfl rfl ?_
        refine W.any (.extract rfl rfl) rfl rfl rfl ?_
        refine W.any (.extract rfl rfl) rfl rfl rfl ?_
        refine W.any (.assign rfl) rfl rfl rfl ?_
        refine W.any (.assign rfl) rfl rfl rfl ?_
        refine W.nil ?_
        refine E.thenN ?_
        refine WC.seq ?_
        refine WC.region ?_
        refine W.rd (.loadAll ag23 (by simp [hk]) rfl (b0_0.le (h1_0.trans h4_2))) rfl rfl rfl ?_
        refine W.any (.move rfl) rfl rfl rfl ?_
        refine W.ef rfl rfl rfl ?_
        refine Ef.call go17 rfl rfl (rmake_ok key r hk w4_2 (hR.le L4_2) hnr) ?_
        rintro _ w5_2 ⟨A5_2, n5_2, c5_2, rfl, s5_2, k5_2, h5_2⟩
        refine ⟨_, rfl, ?_⟩
        have L5_2 := L4_2.trans h5_2
        refine W.any (.move rfl) rfl rfl rfl ?_
        refine W.any (.extract rfl rfl) rfl rfl rfl ?_
        refine W.any (.extract rfl rfl) rfl rfl rfl ?_
        refine W.any (.assign rfl) rfl rfl rfl ?_
        refine W.any (.assign rfl) rfl rfl rfl ?_
        refine W.nil ?_
        refine E.thenN ?_
        refine WC.seq ?_
        refine WC.region ?_
        refine W.rd (.loadAll ag23 (by simp [hk]) rfl (b0_0.le (h1_0.trans (h4_2.trans h5_2)))) rfl rfl rfl ?_
        refine W.any (.move rfl) rfl rfl rfl ?_
        refine W.ef rfl rfl rfl ?_
        refine Ef.call go18 rfl rfl (add_ok key p hk w5_2 (hS.le L5_2) hn) ?_
        rintro _ w6_2 ⟨A6_2, n6_2, c6_2, rfl, s6_2, k6_2, h6_2⟩
        refine ⟨_, rfl, ?_⟩
        have L6_2 := L5_2.trans h6_2
        refine W.any (.move rfl) rfl rfl rfl ?_
        refine W.any (.extract rfl rfl) rfl rfl rfl ?_
        refine W.any (.extract rfl rfl) rfl rfl rfl ?_
        refine W.any (.assign rfl) rfl rfl rfl ?_
        refine W.any (.assign rfl) rfl rfl rfl ?_
        refine W.nil ?_
        refine E.thenN ?_
        refine WC.seq ?_
        refine WC.region ?_
        refine W.rd (.loadAll ag23 (by simp [hk]) rfl (b0_0.le (h1_0.trans (h4_2.trans (h5_2.trans h6_2))))) rfl rfl rfl ?_
        refine W.any (.move rfl) rfl rfl rfl ?_
        refine W.ef rfl rfl rfl ?_
        refine Ef.call go19 rfl rfl (radd_ok key p hk w6_2 (hS.le L6_2) hn) ?_
        rintro _ w7_2 ⟨A7_2, n7_2, c7_2, rfl, s7_2, k7_2, h7_2⟩
        refine ⟨_, rfl, ?_⟩
        have L7_2 := L6_2.trans h7_2
        refine W.any (.move rfl) rfl rfl rfl ?_
        refine W.any (.extract rfl rfl) rfl rfl rfl ?_
        refine W.any (.extract rfl rfl) rfl rfl rfl ?_
        refine W.any (.assign rfl) rfl rfl rfl ?_
        refine W.any (.assign rfl) rfl rfl rfl ?_
        refine W.nil ?_
        refine E.thenN ?_
        refine WC.seq ?_
        refine WC.region ?_
        refine W.any (.move rfl) rfl rfl rfl ?_
        refine W.any (.move rfl) rfl rfl rfl ?_
        refine W.ef rfl rfl rfl ?_
        refine Ef.call go20 rfl rfl (read_ok w7_2 (hK.le L7_2) (hS.le L7_2) hn hc) ?_
        rintro _ w8_2 ⟨A8_2, n8_2, c8_2, rfl, s8_2, h8_2⟩
        refine ⟨_, rfl, ?_⟩
        have L8_2 := L7_2.trans h8_2
        refine W.any (.move rfl) rfl rfl rfl ?_
        refine W.any (.extract rfl rfl) rfl rfl rfl ?_
        refine W.any (.extract rfl rfl) rfl rfl rfl ?_
        refine W.any (.extract rfl rfl) rfl rfl rfl ?_
        refine W.any (.assign rfl) rfl rfl rfl ?_
        refine W.any (.assign rfl) rfl rfl rfl ?_
        refine W.any (.assign rfl) rfl rfl rfl ?_
        refine W.nil ?_
        refine E.thenN ?_
        refine WC.seq ?_
        refine WC.region ?_
        refine W.any (.move rfl) rfl rfl rfl ?_
        refine W.any (.move rfl) rfl rfl rfl ?_
        refine W.ef rfl rfl rfl ?_
        refine Ef.call go21 rfl rfl (rread_ok w8_2 (hK.le L8_2) (hS.le L8_2) hn hc) ?_
        rintro _ w9_2 ⟨A9_2, n9_2, c9_2, rfl, s9_2, h9_2⟩
        refine ⟨_, rfl, ?_⟩
        have L9_2 := L8_2.trans h9_2
        refine W.any (.move rfl) rfl rfl rfl ?_
        refine W.any (.extract rfl rfl) rfl rfl rfl ?_
        refine W.any (.extract rfl rfl) rfl rfl rfl ?_
        refine W.any (.extract rfl rfl) rfl rfl rfl ?_
        refine W.any (.assign rfl) rfl rfl rfl ?_
        refine W.any (.assign rfl) rfl rfl rfl ?_
        refine W.any (.assign rfl) rfl rfl rfl ?_
        refine W.nil ?_
        refine E.thenN ?_
        refine WC.seq ?_
        refine WC.region ?_
        refine W.any (.move rfl) rfl rfl rfl ?_
        refine W.any (.move rfl) rfl rfl rfl ?_
        refine W.rdg (Any.rd (.move rfl) _) rfl rfl rfl (rfl) rfl rfl ?_
        refine W.rdg (Any.rd (.move rfl) _) rfl rfl rfl (rfl) rfl rfl ?_
        refine W.efg rfl rfl rfl (rfl) rfl rfl ?_
        refine Ef.call go22 rfl rfl (same_ok w9_2 (s4_2.le (h5_2.trans (h6_2.trans (h7_2.trans (h8_2.trans h9_2))))) (s5_2.le (h6_2.trans (h7_2.trans (h8_2.trans h9_2)))) (by have := s4_2.len; have := makeB_len key r; omega)) ?_
        rintro _ w10_4 ⟨e, h10_4⟩
        rw [decide_eq_true rfl] at e; subst e
        refine ⟨_, rfl, ?_⟩
        have L10_4 := L9_2.trans h10_4
        refine W.any (.pickT rfl rfl rfl) rfl rfl rfl ?_
        refine W.any (.move rfl) rfl rfl rfl ?_
        refine W.rdg (Any.rd (.move rfl) _) rfl rfl rfl (rfl) rfl rfl ?_
        refine W.rdg (Any.rd (.move rfl) _) rfl rfl rfl (rfl) rfl rfl ?_
        refine W.rdg (Any.rd (.dec (.eql rfl rfl) (decide_eq_true rfl)) _) rfl rfl rfl (rfl) rfl rfl ?_
        refine W.any (.pickT rfl rfl rfl) rfl rfl rfl ?_
        refine W.any (.move rfl) rfl rfl rfl ?_
        refine W.rdg (Any.rd (.move rfl) _) rfl rfl rfl (rfl) rfl rfl ?_
        refine W.rdg (Any.rd (.move rfl) _) rfl rfl rfl (rfl) rfl rfl ?_
        refine W.efg rfl rfl rfl (rfl) rfl rfl ?_
        refine Ef.call go22 rfl rfl (same_ok w10_4 (s6_2.le (h7_2.trans (h8_2.trans (h9_2.trans h10_4)))) (s7_2.le (h8_2.trans (h9_2.trans h10_4))) (by have := s6_2.len; have := addB_le key p; have := hS.len; omega)) ?_
        rintro _ w10_14 ⟨e, h10_14⟩
        rw [decide_eq_true rfl] at e; subst e
        refine ⟨_, rfl, ?_⟩
        have L10_14 := L10_4.trans h10_14
        refine W.any (.pickT rfl rfl rfl) rfl rfl rfl ?_
        refine W.any (.move rfl) rfl rfl rfl ?_
        refine W.rdg (Any.rd (.move rfl) _) rfl rfl rfl (rfl) rfl rfl ?_
        refine W.rdg (Any.rd (.move rfl) _) rfl rfl rfl (rfl) rfl rfl ?_
        refine W.rdg (Any.rd (.dec (.eql rfl rfl) (decide_eq_true rfl)) _) rfl rfl rfl (rfl) rfl rfl ?_
        refine W.any (.pickT rfl rfl rfl) rfl rfl rfl ?_
        refine W.any (.move rfl) rfl rfl rfl ?_
        refine W.rdg (Any.rd (.move rfl) _) rfl rfl rfl (rfl) rfl rfl ?_
        refine W.rdg (Any.rd (.move rfl) _) rfl rfl rfl (rfl) rfl rfl ?_
        refine W.rdg (Any.rd (.dec (.eql rfl rfl) (decide_eq_true rfl)) _) rfl rfl rfl (rfl) rfl rfl ?_
        refine W.any (.pickT rfl rfl rfl) rfl rfl rfl ?_
        refine W.any (.move rfl) rfl rfl rfl ?_
        refine W.rdg (Any.rd (.move rfl) _) rfl rfl rfl (rfl) rfl rfl ?_
        refine W.rdg (Any.rd (.move rfl) _) rfl rfl rfl (rfl) rfl rfl ?_
        refine W.efg rfl rfl rfl (rfl) rfl rfl ?_
        refine Ef.call go22 rfl rfl (same_ok w10_14 (s8_2.le (h9_2.trans (h10_4.trans h10_14))) (s9_2.le (h10_4.trans h10_14)) (by have := s8_2.len; have := readB_len keys p; omega)) ?_
        rintro _ w10_29 ⟨e, h10_29⟩
        rw [decide_eq_true rfl] at e; subst e
        refine ⟨_, rfl, ?_⟩
        have L10_29 := L10_14.trans h10_29
        refine W.any (.pickT rfl rfl rfl) rfl rfl rfl ?_
        refine W.any (.move rfl) rfl rfl rfl ?_
        refine W.rdg (Any.rd (.move rfl) _) rfl rfl rfl (rfl) rfl rfl ?_
        refine W.rdg (Any.rd (.move rfl) _) rfl rfl rfl (rfl) rfl rfl ?_
        refine W.rdg (Any.rd (.dec (.eql rfl rfl) (decide_eq_true rfl)) _) rfl rfl rfl (rfl) rfl rfl ?_
        refine W.any (.pickT rfl rfl rfl) rfl rfl rfl ?_
        refine W.any (.assign rfl) rfl rfl rfl ?_
        refine W.nil ?_
        refine E.thenN ?_
        refine WC.ret ?_
        refine E.ret1 rfl rfl ?_
        exact ⟨rfl, L10_29⟩
end Go.Proofs.Ytpmjdiccekkadaa
