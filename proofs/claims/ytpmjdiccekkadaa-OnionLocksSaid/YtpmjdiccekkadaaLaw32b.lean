/- The statement FaultBack walked: they answer true and leave old memory as it was. -/
import Derived.Test.YtpmjdiccekkadaaLaw32
namespace Go.Proofs.Ytpmjdiccekkadaa
open Go Go.Sx Go.Hsp
set_option maxRecDepth 20000
theorem back_make_len (keys : List (List Byte)) (h : Nat) (r : List Byte) (h8 : h ≤ 7) (hr : r.length ≤ 55) : (backB keys h (makeB (keys.getD h []) r).1).1.length = 64 + 8 * h ∧ (makeB (keys.getD h []) r).1.length = 64 := by
  have e1 : makeB (keys.getD h []) r = (sealB (byB (keys.getD h [])) (rowB r), 0) := by rw [makeB, if_pos hr]
  have e2 := backB_of keys h 0 (sealB (byB (keys.getD h [])) (rowB r)) (by rw [sealB_length, rowB_length r hr]) (by omega)
  rw [e1, e2]
  constructor
  · show (wrapF keys 0 h _).length = _
    rw [wrapF_length, sealB_length, rowB_length r hr]
  · show (sealB _ _).length = _
    rw [sealB_length, rowB_length r hr]

theorem FaultBack_ok {A Ar : Option Addr} {nk ck nr cr : Nat} {hop : Int} {keys : List (List Byte)} {r : List Byte} (w : World) (hK : Ks w 32 A nk keys) (hS : Sb w Ar nr r) (hnk : nk ≤ 9223372036854775807) (hnr : nr ≤ 9223372036854775807) (hh : -9223372036854775808 ≤ hop ∧ hop ≤ 9223372036854775807) : Calls Try.prog 4 #[.slice A nk ck, .int .i64 hop, .slice Ar nr cr] w fun e w' => e = .returned (.bool true) ∧ Le w w' := by
  refine enter Try.func4 rfl rfl ?_
  have L0 := Le.refl w
  refine WC.seq ?_
  refine WC.region ?_
  refine W.any (.assign rfl) rfl rfl rfl ?_
  refine W.nil ?_
  refine E.thenN ?_
  refine WC.seq ?_
  refine WC.region ?_
  refine W.ef rfl rfl rfl ?_
  refine Ef.call go15 rfl rfl (small_ok w) ?_
  rintro _ w1_0 ⟨rfl, h1_0⟩
  refine ⟨_, rfl, ?_⟩
  have L1_0 := L0.trans h1_0
  refine W.any (.assign rfl) rfl rfl rfl ?_
  refine W.nil ?_
  refine E.thenN ?_
  refine WC.seq ?_
  refine WC.seq ?_
  refine WC.region ?_
  refine W.any (.move rfl) rfl rfl rfl ?_
  refine W.rd (.len Try.underlying25 rfl) rfl rfl rfl ?_
  by_cases q1 : 8 < nk
  · refine W.any (.dec (.gtr rfl rfl) (decide_eq_true (by omega))) rfl rfl rfl ?_
    refine W.any (.move rfl) rfl rfl rfl ?_
    refine W.skip rfl rfl rfl (rfl) rfl rfl ?_
    refine W.skip rfl rfl rfl (rfl) rfl rfl ?_
    refine W.any (.pickT rfl rfl rfl) rfl rfl rfl ?_
    refine W.any (.move rfl) rfl rfl rfl ?_
    refine W.skip rfl rfl rfl (rfl) rfl rfl ?_
    refine W.skip rfl rfl rfl (rfl) rfl rfl ?_
    refine W.skip rfl rfl rfl (rfl) rfl rfl ?_
    refine W.skip rfl rfl rfl (rfl) rfl rfl ?_
    refine W.any (.pickT rfl rfl rfl) rfl rfl rfl ?_
    refine W.any (.move rfl) rfl rfl rfl ?_
    refine W.skip rfl rfl rfl (rfl) rfl rfl ?_
    refine W.skip rfl rfl rfl (rfl) rfl rfl ?_
    refine W.skip rfl rfl rfl (rfl) rfl rfl ?_
    refine W.any (.pickT rfl rfl rfl) rfl rfl rfl ?_
    refine W.nil ?_
    refine E.thenN ?_
    refine WC.condT rfl ?_
    refine WC.seq ?_
    refine WC.region ?_
    refine W.any (.move rfl) rfl rfl rfl ?_
    refine W.any (.assign rfl) rfl rfl rfl ?_
    refine W.nil ?_
    refine E.thenN ?_
    refine WC.ret ?_
    refine E.thenR ?_
    refine E.ret1 rfl rfl ?_
    exact ⟨rfl, L1_0⟩
  · refine W.any (.dec (.gtr rfl rfl) (decide_eq_false (by omega))) rfl rfl rfl ?_
    refine W.any (.move rfl) rfl rfl rfl ?_
    refine W.rdg (Any.rd (.move rfl) _) rfl rfl rfl (rfl) rfl rfl ?_
    by_cases q2 : hop < 0
    · refine W.rdg (Any.rd (.dec (.lss rfl rfl) (decide_eq_true (by omega))) _) rfl rfl rfl (rfl) rfl rfl ?_
      refine W.any (.pickF rfl rfl rfl) rfl rfl rfl ?_
      refine W.any (.move rfl) rfl rfl rfl ?_
      refine W.skip rfl rfl rfl (rfl) rfl rfl ?_
      refine W.skip rfl rfl rfl (rfl) rfl rfl ?_
      refine W.skip rfl rfl rfl (rfl) rfl rfl ?_
      refine W.skip rfl rfl rfl (rfl) rfl rfl ?_
      refine W.any (.pickT rfl rfl rfl) rfl rfl rfl ?_
      refine W.any (.move rfl) rfl rfl rfl ?_
      refine W.skip rfl rfl rfl (rfl) rfl rfl ?_
      refine W.skip rfl rfl rfl (rfl) rfl rfl ?_
      refine W.skip rfl rfl rfl (rfl) rfl rfl ?_
      refine W.any (.pickT rfl rfl rfl) rfl rfl rfl ?_
      refine W.nil ?_
      refine E.thenN ?_
      refine WC.condT rfl ?_
      refine WC.seq ?_
      refine WC.region ?_
      refine W.any (.move rfl) rfl rfl rfl ?_
      refine W.any (.assign rfl) rfl rfl rfl ?_
      refine W.nil ?_
      refine E.thenN ?_
      refine WC.ret ?_
      refine E.thenR ?_
      refine E.ret1 rfl rfl ?_
      exact ⟨rfl, L1_0⟩
    · refine W.rdg (Any.rd (.dec (.lss rfl rfl) (decide_eq_false (by omega))) _) rfl rfl rfl (rfl) rfl rfl ?_
      refine W.any (.pickF rfl rfl rfl) rfl rfl rfl ?_
      refine W.any (.move rfl) rfl rfl rfl ?_
      refine W.rdg (Any.rd (.move rfl) _) rfl rfl rfl (rfl) rfl rfl ?_
      refine W.rdg (Any.rd (.move rfl) _) rfl rfl rfl (rfl) rfl rfl ?_
      refine W.rdg (.len Try.underlying25 rfl) rfl rfl rfl (rfl) rfl rfl ?_
      by_cases q3 : (nk : Int) ≤ hop
      · refine W.rdg (Any.rd (.dec (.geq rfl rfl) (decide_eq_true (by omega))) _) rfl rfl rfl (rfl) rfl rfl ?_
        refine W.any (.pickF rfl rfl rfl) rfl rfl rfl ?_
        refine W.any (.move rfl) rfl rfl rfl ?_
        refine W.skip rfl rfl rfl (rfl) rfl rfl ?_
        refine W.skip rfl rfl rfl (rfl) rfl rfl ?_
        refine W.skip rfl rfl rfl (rfl) rfl rfl ?_
        refine W.any (.pickT rfl rfl rfl) rfl rfl rfl ?_
        refine W.nil ?_
        refine E.thenN ?_
        refine WC.condT rfl ?_
        refine WC.seq ?_
        refine WC.region ?_
        refine W.any (.move rfl) rfl rfl rfl ?_
        refine W.any (.assign rfl) rfl rfl rfl ?_
        refine W.nil ?_
        refine E.thenN ?_
        refine WC.ret ?_
        refine E.thenR ?_
        refine E.ret1 rfl rfl ?_
        exact ⟨rfl, L1_0⟩
      · refine W.rdg (Any.rd (.dec (.geq rfl rfl) (decide_eq_false (by omega))) _) rfl rfl rfl (rfl) rfl rfl ?_
        refine W.any (.pickF rfl rfl rfl) rfl rfl rfl ?_
        refine W.any (.move rfl) rfl rfl rfl ?_
        refine W.rdg (Any.rd (.move rfl) _) rfl rfl rfl (rfl) rfl rfl ?_
        refine W.rdg (.len Try.underlying24 rfl) rfl rfl rfl (rfl) rfl rfl ?_
        by_cases q4 : 55 < nr
        · refine W.rdg (Any.rd (.dec (.gtr rfl rfl) (decide_eq_true (by omega))) _) rfl rfl rfl (rfl) rfl rfl ?_
          refine W.any (.pickF rfl rfl rfl) rfl rfl rfl ?_
          refine W.nil ?_
          refine E.thenN ?_
          refine WC.condT rfl ?_
          refine WC.seq ?_
          refine WC.region ?_
          refine W.any (.move rfl) rfl rfl rfl ?_
          refine W.any (.assign rfl) rfl rfl rfl ?_
          refine W.nil ?_
          refine E.thenN ?_
          refine WC.ret ?_
          refine E.thenR ?_
          refine E.ret1 rfl rfl ?_
          exact ⟨rfl, L1_0⟩
        · refine W.rdg (Any.rd (.dec (.gtr rfl rfl) (decide_eq_false (by omega))) _) rfl rfl rfl (rfl) rfl rfl ?_
          refine W.any (.pickF rfl rfl rfl) rfl rfl rfl ?_
          refine W.nil ?_
          refine E.thenN ?_
          refine WC.condF rfl ?_
          refine WC.skip ?_
          refine E.thenN ?_
          refine WC.seq ?_
          refine WC.region ?_
          obtain ⟨h, rfl⟩ : ∃ h : Nat, hop = h := ⟨hop.toNat, by omega⟩
          have hkl := hK.1
          obtain ⟨kk, hkk⟩ : ∃ kk, keys[h]? = some kk := ⟨_, List.getElem?_eq_getElem (by omega)⟩
          have hk32 : kk.length = 32 := hK.2.1 kk (List.mem_of_getElem? hkk)
          have hgd : keys.getD h [] = kk := by rw [List.getD_eq_getElem?_getD, hkk]; rfl
          have hrl := hS.len
          obtain ⟨g1, g2, g3⟩ := back_make keys h r (by omega) (by omega) (by omega)
          obtain ⟨g4, g5⟩ := back_make_len keys h r (by omega) (by omega)
          rw [hgd] at g1 g2 g3 g4 g5
          refine W.any (.move rfl) rfl rfl rfl ?_
          refine W.any (.move rfl) rfl rfl rfl ?_
          refine W.any (.idxS (h) Try.underlying25 sz23 rfl rfl (hK.2.2.isSome (j := h) (by omega) (by decide)) (by omega) (by omega)) rfl rfl rfl ?_
          refine W.rd (.loadK ag23 rfl (hK.le L1_0) hkk (by decide)) rfl rfl rfl ?_
          refine W.any (.move rfl) rfl rfl rfl ?_
          refine W.ef rfl rfl rfl ?_
          refine Ef.call go16 rfl rfl (make_ok kk r hk32 w1_0 (hS.le L1_0)) ?_
          rintro _ w4_5 ⟨A4, n4, c4, e, s4, k4, h4_5⟩
          rw [g1] at e; subst e
          refine ⟨_, rfl, ?_⟩
          have L4_5 := L1_0.trans h4_5
          refine W.any (.move rfl) rfl rfl rfl ?_
          refine W.any (.extract rfl rfl) rfl rfl rfl ?_
          refine W.any (.extract rfl rfl) rfl rfl rfl ?_
          refine W.any (.assign rfl) rfl rfl rfl ?_
          refine W.any (.assign rfl) rfl rfl rfl ?_
          refine W.nil ?_
          refine E.thenN ?_
          refine WC.seq ?_
          refine WC.region ?_
          refine W.any (.move rfl) rfl rfl rfl ?_
          refine W.any (.move rfl) rfl rfl rfl ?_
          refine W.any (.sub rfl rfl (by omega)) rfl rfl rfl ?_
          refine W.any (.move rfl) rfl rfl rfl ?_
          refine W.ef rfl rfl rfl ?_
          refine Ef.call go23 rfl rfl (back_ok (h := h) w4_5 (hK.le L4_5) s4 (by rw [← s4.len, g5]; omega) k4 (by omega) (by omega)) ?_
          rintro _ w5_4 ⟨A5, n5, c5, e, s5, k5, h5_4⟩
          rw [g2] at e; subst e
          refine ⟨_, rfl, ?_⟩
          have L5_4 := L4_5.trans h5_4
          refine W.any (.move rfl) rfl rfl rfl ?_
          refine W.any (.extract rfl rfl) rfl rfl rfl ?_
          refine W.any (.extract rfl rfl) rfl rfl rfl ?_
          refine W.any (.assign rfl) rfl rfl rfl ?_
          refine W.any (.assign rfl) rfl rfl rfl ?_
          refine W.nil ?_
          refine E.thenN ?_
          refine WC.seq ?_
          refine WC.region ?_
          refine W.any (.move rfl) rfl rfl rfl ?_
          refine W.any (.move rfl) rfl rfl rfl ?_
          refine W.ef rfl rfl rfl ?_
          refine Ef.call go20 rfl rfl (read_ok w5_4 (hK.le L5_4) s5 (by rw [← s5.len, g4]; omega) k5) ?_
          rintro _ w6_2 ⟨A6, n6, c6, e, s6, h6_2⟩
          rw [g3] at e s6; subst e
          refine ⟨_, rfl, ?_⟩
          have L6_2 := L5_4.trans h6_2
          refine W.any (.move rfl) rfl rfl rfl ?_
          refine W.any (.extract rfl rfl) rfl rfl rfl ?_
          refine W.any (.extract rfl rfl) rfl rfl rfl ?_
          refine W.any (.extract rfl rfl) rfl rfl rfl ?_
          refine W.any (.assign rfl) rfl rfl rfl ?_
          refine W.any (.assign rfl) rfl rfl rfl ?_
          refine W.any (.assign rfl) rfl rfl rfl ?_
          refine W.nil ?_
          refine E.thenN ?_
          refine WC.seq ?_
          refine WC.region ?_
          refine W.any (.move rfl) rfl rfl rfl ?_
          refine W.any (.move rfl) rfl rfl rfl ?_
          refine W.rdg (Any.rd (.move rfl) _) rfl rfl rfl (rfl) rfl rfl ?_
          refine W.rdg (Any.rd (.dec (.eql rfl rfl) (decide_eq_true rfl)) _) rfl rfl rfl (rfl) rfl rfl ?_
          refine W.any (.pickT rfl rfl rfl) rfl rfl rfl ?_
          refine W.any (.move rfl) rfl rfl rfl ?_
          refine W.rdg (Any.rd (.move rfl) _) rfl rfl rfl (rfl) rfl rfl ?_
          refine W.any (.pickT rfl rfl rfl) rfl rfl rfl ?_
          refine W.any (.move rfl) rfl rfl rfl ?_
          refine W.rdg (Any.rd (.move rfl) _) rfl rfl rfl (rfl) rfl rfl ?_
          refine W.rdg (Any.rd (.dec (.eql rfl rfl) (decide_eq_true rfl)) _) rfl rfl rfl (rfl) rfl rfl ?_
          refine W.any (.pickT rfl rfl rfl) rfl rfl rfl ?_
          refine W.any (.move rfl) rfl rfl rfl ?_
          refine W.rdg (Any.rd (.move rfl) _) rfl rfl rfl (rfl) rfl rfl ?_
          refine W.rdg (Any.rd (.move rfl) _) rfl rfl rfl (rfl) rfl rfl ?_
          refine W.rdg (Any.rd (.dec (.eql rfl rfl) (decide_eq_true rfl)) _) rfl rfl rfl (rfl) rfl rfl ?_
          refine W.any (.pickT rfl rfl rfl) rfl rfl rfl ?_
          refine W.any (.move rfl) rfl rfl rfl ?_
          refine W.rdg (Any.rd (.move rfl) _) rfl rfl rfl (rfl) rfl rfl ?_
          refine W.rdg (Any.rd (.move rfl) _) rfl rfl rfl (rfl) rfl rfl ?_
          refine W.efg rfl rfl rfl (rfl) rfl rfl ?_
          refine Ef.call go22 rfl rfl (same_ok w6_2 s6 (hS.le L6_2) (by have h6 : r.length = n6 := s6.len; omega)) ?_
          rintro _ w7_20 ⟨e, h7_20⟩
          rw [decide_eq_true rfl] at e; subst e
          refine ⟨_, rfl, ?_⟩
          have L7_20 := L6_2.trans h7_20
          refine W.any (.pickT rfl rfl rfl) rfl rfl rfl ?_
          refine W.any (.assign rfl) rfl rfl rfl ?_
          refine W.nil ?_
          refine E.thenN ?_
          refine WC.ret ?_
          refine E.ret1 rfl rfl ?_
          exact ⟨rfl, L7_20⟩
end Go.Proofs.Ytpmjdiccekkadaa
