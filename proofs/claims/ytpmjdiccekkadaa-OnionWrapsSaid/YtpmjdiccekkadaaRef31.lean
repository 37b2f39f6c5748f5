/- The document's onion (layer 31): its small functions, walked: they compute what the program's do. -/
import Derived.Test.YtpmjdiccekkadaaRef05
import Derived.Test.YtpmjdiccekkadaaRef09
import Derived.Test.YtpmjdiccekkadaaOnion3
namespace Go.Proofs.Ytpmjdiccekkadaa
open Go Go.Sx Go.Hsp Go.Num Go.Osp
set_option maxRecDepth 20000
theorem may_next {h : Hop} (hy : mayB h = true) : -1 ≤ h.1 := by
  by_cases q1 : -1 ≤ h.1 ∧ h.1 ≤ 11
  · exact q1.1
  · rw [mayB, decide_eq_false q1] at hy; simp at hy
theorem scale_64 (p k : Nat) : scale p k < 18446744073709551616 := Nat.lt_trans (scale_lt p k) M_lt
theorem r8_ok (m : Nat) (hm : m < 18446744073709551616) (w : World) : Calls Try.prog 80 #[.int .u64 ((m : Nat) : Int)] w fun e w' => ∃ A' c', e = .returned (.slice A' (8) c') ∧ Own w' w.heap.size 5 1 A' (8) c' ((be8 m).map u8v) ∧ Le w w' := by
  refine enter Try.func80 rfl rfl ?_
  have L0 := Le.refl w
  refine WC.seq ?_
  refine WC.region ?_
  refine W.any (.assign rfl) rfl rfl rfl ?_
  refine W.nil ?_
  refine E.thenN ?_
  refine WC.seq ?_
  refine WC.region ?_
  refine W.any (.move rfl) rfl rfl rfl ?_
  refine W.ef rfl rfl rfl ?_
  refine Ef.call go102 rfl rfl (rlong_ok m w hm) ?_
  rintro _ w1_1 ⟨A1, c1, rfl, o1, h1_1⟩
  refine ⟨_, rfl, ?_⟩
  have L1_1 := L0.trans h1_1
  refine W.any (.assign rfl) rfl rfl rfl ?_
  refine W.nil ?_
  refine E.thenN ?_
  refine WC.ret ?_
  refine E.ret1 rfl rfl ?_
  exact ⟨A1, c1, rfl, o1, L1_1⟩

theorem rin_T (i lo hi : Int) (h : (lo ≤ i ∧ i ≤ hi)) (w : World) : Calls Try.prog 112 #[.int .i64 i, .int .i64 lo, .int .i64 hi] w fun e w' => e = .returned (.bool true) ∧ Le w w' := by
  refine enter Try.func112 rfl rfl ?_
  have L0 := Le.refl w
  refine WC.seq ?_
  refine WC.region ?_
  refine W.any (.assign rfl) rfl rfl rfl ?_
  refine W.nil ?_
  refine E.thenN ?_
  refine WC.seq ?_
  refine WC.region ?_
  refine W.any (.move rfl) rfl rfl rfl ?_
  refine W.any (.move rfl) rfl rfl rfl ?_
  refine W.any (.dec (.geq rfl rfl) (decide_eq_true (by omega))) rfl rfl rfl ?_
  refine W.any (.move rfl) rfl rfl rfl ?_
  refine W.rdg (Any.rd (.move rfl) _) rfl rfl rfl (rfl) rfl rfl ?_
  refine W.rdg (Any.rd (.move rfl) _) rfl rfl rfl (rfl) rfl rfl ?_
  refine W.rdg (Any.rd (.dec (.leq rfl rfl) (decide_eq_true (by omega))) _) rfl rfl rfl (rfl) rfl rfl ?_
  refine W.any (.pickT rfl rfl rfl) rfl rfl rfl ?_
  refine W.any (.assign rfl) rfl rfl rfl ?_
  refine W.nil ?_
  refine E.thenN ?_
  refine WC.ret ?_
  refine E.ret1 rfl rfl ?_
  exact ⟨rfl, L0⟩

theorem rfright_T (a : Nat) (h : a < q) (w : World) : Calls Try.prog 88 #[.int .u64 ((a : Nat) : Int)] w fun e w' => e = .returned (.bool true) ∧ Le w w' := by
  have := rfright_ok a w
  rwa [decide_eq_true h] at this

theorem rpright_T (a : Nat) (ha : a < 18446744073709551616) (h : right a = true) (w : World) : Calls Try.prog 90 #[.int .u64 ((a : Nat) : Int)] w fun e w' => e = .returned (.bool true) ∧ Le w w' := by
  have := rpright_ok a ha w
  rwa [h] at this

theorem rin_F (i lo hi : Int) (h : ¬ (lo ≤ i ∧ i ≤ hi)) (w : World) : Calls Try.prog 112 #[.int .i64 i, .int .i64 lo, .int .i64 hi] w fun e w' => e = .returned (.bool false) ∧ Le w w' := by
  refine enter Try.func112 rfl rfl ?_
  have L0 := Le.refl w
  refine WC.seq ?_
  refine WC.region ?_
  refine W.any (.assign rfl) rfl rfl rfl ?_
  refine W.nil ?_
  refine E.thenN ?_
  refine WC.seq ?_
  refine WC.region ?_
  refine W.any (.move rfl) rfl rfl rfl ?_
  refine W.any (.move rfl) rfl rfl rfl ?_
  by_cases h1 : lo ≤ i
  · refine W.any (.dec (.geq rfl rfl) (decide_eq_true (by omega))) rfl rfl rfl ?_
    refine W.any (.move rfl) rfl rfl rfl ?_
    refine W.rdg (Any.rd (.move rfl) _) rfl rfl rfl (rfl) rfl rfl ?_
    refine W.rdg (Any.rd (.move rfl) _) rfl rfl rfl (rfl) rfl rfl ?_
    refine W.rdg (Any.rd (.dec (.leq rfl rfl) (decide_eq_false (by omega))) _) rfl rfl rfl (rfl) rfl rfl ?_
    refine W.any (.pickT rfl rfl rfl) rfl rfl rfl ?_
    refine W.any (.assign rfl) rfl rfl rfl ?_
    refine W.nil ?_
    refine E.thenN ?_
    refine WC.ret ?_
    refine E.ret1 rfl rfl ?_
    exact ⟨rfl, L0⟩
  · refine W.any (.dec (.geq rfl rfl) (decide_eq_false (by omega))) rfl rfl rfl ?_
    refine W.any (.move rfl) rfl rfl rfl ?_
    refine W.skip rfl rfl rfl (rfl) rfl rfl ?_
    refine W.skip rfl rfl rfl (rfl) rfl rfl ?_
    refine W.skip rfl rfl rfl (rfl) rfl rfl ?_
    refine W.any (.pickF rfl rfl rfl) rfl rfl rfl ?_
    refine W.any (.assign rfl) rfl rfl rfl ?_
    refine W.nil ?_
    refine E.thenN ?_
    refine WC.ret ?_
    refine E.ret1 rfl rfl ?_
    exact ⟨rfl, L0⟩

theorem rfright_F (a : Nat) (h : ¬ a < q) (w : World) : Calls Try.prog 88 #[.int .u64 ((a : Nat) : Int)] w fun e w' => e = .returned (.bool false) ∧ Le w w' := by
  have := rfright_ok a w
  rwa [decide_eq_false h] at this

theorem rpright_F (a : Nat) (ha : a < 18446744073709551616) (h : right a = false) (w : World) : Calls Try.prog 90 #[.int .u64 ((a : Nat) : Int)] w fun e w' => e = .returned (.bool false) ∧ Le w w' := by
  have := rpright_ok a ha w
  rwa [h] at this

theorem rmay_ok (h : Hop) (ho : HopOk h) (w : World) : Calls Try.prog 72 #[.agg (hopV h).toArray] w fun e w' => e = .returned (.bool (mayB h)) ∧ Le w w' := by
  refine enter Try.func72 rfl rfl ?_
  have L0 := Le.refl w
  refine WC.seq ?_
  refine WC.region ?_
  refine W.ef rfl rfl rfl ?_
  refine Ef.boxA rfl ?_
  intro g0_0 w0_0 hg0_0 b0_0 h0_0
  have L0_0 := L0.trans h0_0
  have LL := Le.refl w0_0
  refine W.any (.assign rfl) rfl rfl rfl ?_
  refine W.nil ?_
  refine E.thenN ?_
  refine WC.seq ?_
  refine WC.region ?_
  refine W.any (.field0 fa51_4 rfl) rfl rfl rfl ?_
  refine W.rd (.loadB na49 rfl (b0_0.le LL) (rfl)) rfl rfl rfl ?_
  by_cases q6 : h.2.2.2.2.1 = 0
  · refine W.any (.dec (.eql rfl rfl) (decide_eq_true (by omega))) rfl rfl rfl ?_
    refine W.any (.move rfl) rfl rfl rfl ?_
    refine W.skip rfl rfl rfl (rfl) rfl rfl ?_
    refine W.skip rfl rfl rfl (rfl) rfl rfl ?_
    refine W.skip rfl rfl rfl (rfl) rfl rfl ?_
    refine W.any (.pickT rfl rfl rfl) rfl rfl rfl ?_
    refine W.any (.assign rfl) rfl rfl rfl ?_
    refine W.nil ?_
    refine E.thenN ?_
    refine WC.seq ?_
    refine WC.region ?_
    refine W.any (.field0 fa51_5 rfl) rfl rfl rfl ?_
    refine W.rd (.loadB na48 rfl (b0_0.le LL) (rfl)) rfl rfl rfl ?_
    by_cases q5 : h.2.2.2.2.2 < q
    · refine W.ef rfl rfl rfl ?_
      refine Ef.call go88 rfl rfl (rfright_T _ q5 w0_0) ?_
      rintro _ w2_2 ⟨rfl, h2_2⟩
      refine ⟨_, rfl, ?_⟩
      have L2_2 := LL.trans h2_2
      refine W.any (.assign rfl) rfl rfl rfl ?_
      refine W.nil ?_
      refine E.thenN ?_
      refine WC.seq ?_
      refine WC.region ?_
      refine W.any (.move rfl) rfl rfl rfl ?_
      refine W.any (.move rfl) rfl rfl rfl ?_
      refine W.rdg (Any.rd (.move rfl) _) rfl rfl rfl (rfl) rfl rfl ?_
      refine W.any (.pickT rfl rfl rfl) rfl rfl rfl ?_
      refine W.any (.move rfl) rfl rfl rfl ?_
      refine W.rdg (Any.rd (.field0 fa51_0 rfl) _) rfl rfl rfl (rfl) rfl rfl ?_
      refine W.rdg (.loadB na3 rfl (b0_0.le L2_2) (rfl)) rfl rfl rfl (rfl) rfl rfl ?_
      by_cases q1 : -1 ≤ h.1 ∧ h.1 ≤ 11
      · refine W.efg rfl rfl rfl (rfl) rfl rfl ?_
        refine Ef.call go112 rfl rfl (rin_T _ _ _ q1 w2_2) ?_
        rintro _ w3_7 ⟨rfl, h3_7⟩
        refine ⟨_, rfl, ?_⟩
        have L3_7 := L2_2.trans h3_7
        refine W.any (.pickT rfl rfl rfl) rfl rfl rfl ?_
        refine W.any (.move rfl) rfl rfl rfl ?_
        refine W.rdg (Any.rd (.field0 fa51_1 rfl) _) rfl rfl rfl (rfl) rfl rfl ?_
        refine W.rdg (.loadB na3 rfl (b0_0.le L3_7) (rfl)) rfl rfl rfl (rfl) rfl rfl ?_
        by_cases q2 : 0 ≤ h.2.1 ∧ h.2.1 ≤ 1048575
        · refine W.efg rfl rfl rfl (rfl) rfl rfl ?_
          refine Ef.call go112 rfl rfl (rin_T _ _ _ q2 w3_7) ?_
          rintro _ w3_12 ⟨rfl, h3_12⟩
          refine ⟨_, rfl, ?_⟩
          have L3_12 := L3_7.trans h3_12
          refine W.any (.pickT rfl rfl rfl) rfl rfl rfl ?_
          refine W.any (.move rfl) rfl rfl rfl ?_
          refine W.rdg (Any.rd (.field0 fa51_2 rfl) _) rfl rfl rfl (rfl) rfl rfl ?_
          refine W.rdg (.loadB na3 rfl (b0_0.le L3_12) (rfl)) rfl rfl rfl (rfl) rfl rfl ?_
          by_cases q3 : 0 ≤ h.2.2.1 ∧ h.2.2.1 ≤ 1125899906842624
          · refine W.efg rfl rfl rfl (rfl) rfl rfl ?_
            refine Ef.call go112 rfl rfl (rin_T _ _ _ q3 w3_12) ?_
            rintro _ w3_17 ⟨rfl, h3_17⟩
            refine ⟨_, rfl, ?_⟩
            have L3_17 := L3_12.trans h3_17
            refine W.any (.pickT rfl rfl rfl) rfl rfl rfl ?_
            refine W.any (.move rfl) rfl rfl rfl ?_
            refine W.rdg (Any.rd (.field0 fa51_3 rfl) _) rfl rfl rfl (rfl) rfl rfl ?_
            refine W.rdg (.loadB na3 rfl (b0_0.le L3_17) (rfl)) rfl rfl rfl (rfl) rfl rfl ?_
            by_cases q4 : 0 ≤ h.2.2.2.1 ∧ h.2.2.2.1 ≤ 1048576
            · refine W.efg rfl rfl rfl (rfl) rfl rfl ?_
              refine Ef.call go112 rfl rfl (rin_T _ _ _ q4 w3_17) ?_
              rintro _ w3_22 ⟨rfl, h3_22⟩
              refine ⟨_, rfl, ?_⟩
              have L3_22 := L3_17.trans h3_22
              refine W.any (.pickT rfl rfl rfl) rfl rfl rfl ?_
              refine W.any (.assign rfl) rfl rfl rfl ?_
              refine W.nil ?_
              refine E.thenN ?_
              refine WC.ret ?_
              refine E.ret1 rfl rfl ?_
              exact ⟨congrArg (fun b => Ending.returned (Value.bool b)) (Eq.symm (by rw [mayB, decide_eq_true q1, decide_eq_true q2, decide_eq_true q3, decide_eq_true q4, decide_eq_true q5, decide_eq_true q6]; rfl)), h0_0.trans L3_22⟩
            · refine W.efg rfl rfl rfl (rfl) rfl rfl ?_
              refine Ef.call go112 rfl rfl (rin_F _ _ _ q4 w3_17) ?_
              rintro _ w3_22 ⟨rfl, h3_22⟩
              refine ⟨_, rfl, ?_⟩
              have L3_22 := L3_17.trans h3_22
              refine W.any (.pickT rfl rfl rfl) rfl rfl rfl ?_
              refine W.any (.assign rfl) rfl rfl rfl ?_
              refine W.nil ?_
              refine E.thenN ?_
              refine WC.ret ?_
              refine E.ret1 rfl rfl ?_
              exact ⟨congrArg (fun b => Ending.returned (Value.bool b)) (Eq.symm (by rw [mayB, decide_eq_false q4]; simp)), h0_0.trans L3_22⟩
          · refine W.efg rfl rfl rfl (rfl) rfl rfl ?_
            refine Ef.call go112 rfl rfl (rin_F _ _ _ q3 w3_12) ?_
            rintro _ w3_17 ⟨rfl, h3_17⟩
            refine ⟨_, rfl, ?_⟩
            have L3_17 := L3_12.trans h3_17
            refine W.any (.pickT rfl rfl rfl) rfl rfl rfl ?_
            refine W.any (.move rfl) rfl rfl rfl ?_
            refine W.skip rfl rfl rfl (rfl) rfl rfl ?_
            refine W.skip rfl rfl rfl (rfl) rfl rfl ?_
            refine W.skip rfl rfl rfl (rfl) rfl rfl ?_
            refine W.any (.pickF rfl rfl rfl) rfl rfl rfl ?_
            refine W.any (.assign rfl) rfl rfl rfl ?_
            refine W.nil ?_
            refine E.thenN ?_
            refine WC.ret ?_
            refine E.ret1 rfl rfl ?_
            exact ⟨congrArg (fun b => Ending.returned (Value.bool b)) (Eq.symm (by rw [mayB, decide_eq_false q3]; simp)), h0_0.trans L3_17⟩
        · refine W.efg rfl rfl rfl (rfl) rfl rfl ?_
          refine Ef.call go112 rfl rfl (rin_F _ _ _ q2 w3_7) ?_
          rintro _ w3_12 ⟨rfl, h3_12⟩
          refine ⟨_, rfl, ?_⟩
          have L3_12 := L3_7.trans h3_12
          refine W.any (.pickT rfl rfl rfl) rfl rfl rfl ?_
          refine W.any (.move rfl) rfl rfl rfl ?_
          refine W.skip rfl rfl rfl (rfl) rfl rfl ?_
          refine W.skip rfl rfl rfl (rfl) rfl rfl ?_
          refine W.skip rfl rfl rfl (rfl) rfl rfl ?_
          refine W.any (.pickF rfl rfl rfl) rfl rfl rfl ?_
          refine W.any (.move rfl) rfl rfl rfl ?_
          refine W.skip rfl rfl rfl (rfl) rfl rfl ?_
          refine W.skip rfl rfl rfl (rfl) rfl rfl ?_
          refine W.skip rfl rfl rfl (rfl) rfl rfl ?_
          refine W.any (.pickF rfl rfl rfl) rfl rfl rfl ?_
          refine W.any (.assign rfl) rfl rfl rfl ?_
          refine W.nil ?_
          refine E.thenN ?_
          refine WC.ret ?_
          refine E.ret1 rfl rfl ?_
          exact ⟨congrArg (fun b => Ending.returned (Value.bool b)) (Eq.symm (by rw [mayB, decide_eq_false q2]; simp)), h0_0.trans L3_12⟩
      · refine W.efg rfl rfl rfl (rfl) rfl rfl ?_
        refine Ef.call go112 rfl rfl (rin_F _ _ _ q1 w2_2) ?_
        rintro _ w3_7 ⟨rfl, h3_7⟩
        refine ⟨_, rfl, ?_⟩
        have L3_7 := L2_2.trans h3_7
        refine W.any (.pickT rfl rfl rfl) rfl rfl rfl ?_
        refine W.any (.move rfl) rfl rfl rfl ?_
        refine W.skip rfl rfl rfl (rfl) rfl rfl ?_
        refine W.skip rfl rfl rfl (rfl) rfl rfl ?_
        refine W.skip rfl rfl rfl (rfl) rfl rfl ?_
        refine W.any (.pickF rfl rfl rfl) rfl rfl rfl ?_
        refine W.any (.move rfl) rfl rfl rfl ?_
        refine W.skip rfl rfl rfl (rfl) rfl rfl ?_
        refine W.skip rfl rfl rfl (rfl) rfl rfl ?_
        refine W.skip rfl rfl rfl (rfl) rfl rfl ?_
        refine W.any (.pickF rfl rfl rfl) rfl rfl rfl ?_
        refine W.any (.move rfl) rfl rfl rfl ?_
        refine W.skip rfl rfl rfl (rfl) rfl rfl ?_
        refine W.skip rfl rfl rfl (rfl) rfl rfl ?_
        refine W.skip rfl rfl rfl (rfl) rfl rfl ?_
        refine W.any (.pickF rfl rfl rfl) rfl rfl rfl ?_
        refine W.any (.assign rfl) rfl rfl rfl ?_
        refine W.nil ?_
        refine E.thenN ?_
        refine WC.ret ?_
        refine E.ret1 rfl rfl ?_
        exact ⟨congrArg (fun b => Ending.returned (Value.bool b)) (Eq.symm (by rw [mayB, decide_eq_false q1]; simp)), h0_0.trans L3_7⟩
    · refine W.ef rfl rfl rfl ?_
      refine Ef.call go88 rfl rfl (rfright_F _ q5 w0_0) ?_
      rintro _ w2_2 ⟨rfl, h2_2⟩
      refine ⟨_, rfl, ?_⟩
      have L2_2 := LL.trans h2_2
      refine W.any (.assign rfl) rfl rfl rfl ?_
      refine W.nil ?_
      refine E.thenN ?_
      refine WC.seq ?_
      refine WC.region ?_
      refine W.any (.move rfl) rfl rfl rfl ?_
      refine W.any (.move rfl) rfl rfl rfl ?_
      refine W.rdg (Any.rd (.move rfl) _) rfl rfl rfl (rfl) rfl rfl ?_
      refine W.any (.pickT rfl rfl rfl) rfl rfl rfl ?_
      refine W.any (.move rfl) rfl rfl rfl ?_
      refine W.skip rfl rfl rfl (rfl) rfl rfl ?_
      refine W.skip rfl rfl rfl (rfl) rfl rfl ?_
      refine W.skip rfl rfl rfl (rfl) rfl rfl ?_
      refine W.any (.pickF rfl rfl rfl) rfl rfl rfl ?_
      refine W.any (.move rfl) rfl rfl rfl ?_
      refine W.skip rfl rfl rfl (rfl) rfl rfl ?_
      refine W.skip rfl rfl rfl (rfl) rfl rfl ?_
      refine W.skip rfl rfl rfl (rfl) rfl rfl ?_
      refine W.any (.pickF rfl rfl rfl) rfl rfl rfl ?_
      refine W.any (.move rfl) rfl rfl rfl ?_
      refine W.skip rfl rfl rfl (rfl) rfl rfl ?_
      refine W.skip rfl rfl rfl (rfl) rfl rfl ?_
      refine W.skip rfl rfl rfl (rfl) rfl rfl ?_
      refine W.any (.pickF rfl rfl rfl) rfl rfl rfl ?_
      refine W.any (.move rfl) rfl rfl rfl ?_
      refine W.skip rfl rfl rfl (rfl) rfl rfl ?_
      refine W.skip rfl rfl rfl (rfl) rfl rfl ?_
      refine W.skip rfl rfl rfl (rfl) rfl rfl ?_
      refine W.any (.pickF rfl rfl rfl) rfl rfl rfl ?_
      refine W.any (.assign rfl) rfl rfl rfl ?_
      refine W.nil ?_
      refine E.thenN ?_
      refine WC.ret ?_
      refine E.ret1 rfl rfl ?_
      exact ⟨congrArg (fun b => Ending.returned (Value.bool b)) (Eq.symm (by rw [mayB, decide_eq_false q5]; simp)), h0_0.trans L2_2⟩
  · refine W.any (.dec (.eql rfl rfl) (decide_eq_false (by omega))) rfl rfl rfl ?_
    refine W.any (.move rfl) rfl rfl rfl ?_
    refine W.rdg (Any.rd (.field0 fa51_4 rfl) _) rfl rfl rfl (rfl) rfl rfl ?_
    refine W.rdg (.loadB na49 rfl (b0_0.le LL) (rfl)) rfl rfl rfl (rfl) rfl rfl ?_
    by_cases q7 : right h.2.2.2.2.1 = true
    · refine W.efg rfl rfl rfl (rfl) rfl rfl ?_
      refine Ef.call go90 rfl rfl (rpright_T _ ho.2.2.2.2.1 q7 w0_0) ?_
      rintro _ w1_6 ⟨rfl, h1_6⟩
      refine ⟨_, rfl, ?_⟩
      have L1_6 := LL.trans h1_6
      refine W.any (.pickF rfl rfl rfl) rfl rfl rfl ?_
      refine W.any (.assign rfl) rfl rfl rfl ?_
      refine W.nil ?_
      refine E.thenN ?_
      refine WC.seq ?_
      refine WC.region ?_
      refine W.any (.field0 fa51_5 rfl) rfl rfl rfl ?_
      refine W.rd (.loadB na48 rfl (b0_0.le L1_6) (rfl)) rfl rfl rfl ?_
      by_cases q5 : h.2.2.2.2.2 < q
      · refine W.ef rfl rfl rfl ?_
        refine Ef.call go88 rfl rfl (rfright_T _ q5 w1_6) ?_
        rintro _ w2_2 ⟨rfl, h2_2⟩
        refine ⟨_, rfl, ?_⟩
        have L2_2 := L1_6.trans h2_2
        refine W.any (.assign rfl) rfl rfl rfl ?_
        refine W.nil ?_
        refine E.thenN ?_
        refine WC.seq ?_
        refine WC.region ?_
        refine W.any (.move rfl) rfl rfl rfl ?_
        refine W.any (.move rfl) rfl rfl rfl ?_
        refine W.rdg (Any.rd (.move rfl) _) rfl rfl rfl (rfl) rfl rfl ?_
        refine W.any (.pickT rfl rfl rfl) rfl rfl rfl ?_
        refine W.any (.move rfl) rfl rfl rfl ?_
        refine W.rdg (Any.rd (.field0 fa51_0 rfl) _) rfl rfl rfl (rfl) rfl rfl ?_
        refine W.rdg (.loadB na3 rfl (b0_0.le L2_2) (rfl)) rfl rfl rfl (rfl) rfl rfl ?_
        by_cases q1 : -1 ≤ h.1 ∧ h.1 ≤ 11
        · refine W.efg rfl rfl rfl (rfl) rfl rfl ?_
          refine Ef.call go112 rfl rfl (rin_T _ _ _ q1 w2_2) ?_
          rintro _ w3_7 ⟨rfl, h3_7⟩
          refine ⟨_, rfl, ?_⟩
          have L3_7 := L2_2.trans h3_7
          refine W.any (.pickT rfl rfl rfl) rfl rfl rfl ?_
          refine W.any (.move rfl) rfl rfl rfl ?_
          refine W.rdg (Any.rd (.field0 fa51_1 rfl) _) rfl rfl rfl (rfl) rfl rfl ?_
          refine W.rdg (.loadB na3 rfl (b0_0.le L3_7) (rfl)) rfl rfl rfl (rfl) rfl rfl ?_
          by_cases q2 : 0 ≤ h.2.1 ∧ h.2.1 ≤ 1048575
          · refine W.efg rfl rfl rfl (rfl) rfl rfl ?_
            refine Ef.call go112 rfl rfl (rin_T _ _ _ q2 w3_7) ?_
            rintro _ w3_12 ⟨rfl, h3_12⟩
            refine ⟨_, rfl, ?_⟩
            have L3_12 := L3_7.trans h3_12
            refine W.any (.pickT rfl rfl rfl) rfl rfl rfl ?_
            refine W.any (.move rfl) rfl rfl rfl ?_
            refine W.rdg (Any.rd (.field0 fa51_2 rfl) _) rfl rfl rfl (rfl) rfl rfl ?_
            refine W.rdg (.loadB na3 rfl (b0_0.le L3_12) (rfl)) rfl rfl rfl (rfl) rfl rfl ?_
            by_cases q3 : 0 ≤ h.2.2.1 ∧ h.2.2.1 ≤ 1125899906842624
            · refine W.efg rfl rfl rfl (rfl) rfl rfl ?_
              refine Ef.call go112 rfl rfl (rin_T _ _ _ q3 w3_12) ?_
              rintro _ w3_17 ⟨rfl, h3_17⟩
              refine ⟨_, rfl, ?_⟩
              have L3_17 := L3_12.trans h3_17
              refine W.any (.pickT rfl rfl rfl) rfl rfl rfl ?_
              refine W.any (.move rfl) rfl rfl rfl ?_
              refine W.rdg (Any.rd (.field0 fa51_3 rfl) _) rfl rfl rfl (rfl) rfl rfl ?_
              refine W.rdg (.loadB na3 rfl (b0_0.le L3_17) (rfl)) rfl rfl rfl (rfl) rfl rfl ?_
              by_cases q4 : 0 ≤ h.2.2.2.1 ∧ h.2.2.2.1 ≤ 1048576
              · refine W.efg rfl rfl rfl (rfl) rfl rfl ?_
                refine Ef.call go112 rfl rfl (rin_T _ _ _ q4 w3_17) ?_
                rintro _ w3_22 ⟨rfl, h3_22⟩
                refine ⟨_, rfl, ?_⟩
                have L3_22 := L3_17.trans h3_22
                refine W.any (.pickT rfl rfl rfl) rfl rfl rfl ?_
                refine W.any (.assign rfl) rfl rfl rfl ?_
                refine W.nil ?_
                refine E.thenN ?_
                refine WC.ret ?_
                refine E.ret1 rfl rfl ?_
                exact ⟨congrArg (fun b => Ending.returned (Value.bool b)) (Eq.symm (by rw [mayB, decide_eq_true q1, decide_eq_true q2, decide_eq_true q3, decide_eq_true q4, decide_eq_true q5, decide_eq_false q6, q7]; rfl)), h0_0.trans L3_22⟩
              · refine W.efg rfl rfl rfl (rfl) rfl rfl ?_
                refine Ef.call go112 rfl rfl (rin_F _ _ _ q4 w3_17) ?_
                rintro _ w3_22 ⟨rfl, h3_22⟩
                refine ⟨_, rfl, ?_⟩
                have L3_22 := L3_17.trans h3_22
                refine W.any (.pickT rfl rfl rfl) rfl rfl rfl ?_
                refine W.any (.assign rfl) rfl rfl rfl ?_
                refine W.nil ?_
                refine E.thenN ?_
                refine WC.ret ?_
                refine E.ret1 rfl rfl ?_
                exact ⟨congrArg (fun b => Ending.returned (Value.bool b)) (Eq.symm (by rw [mayB, decide_eq_false q4]; simp)), h0_0.trans L3_22⟩
            · refine W.efg rfl rfl rfl (rfl) rfl rfl ?_
              refine Ef.call go112 rfl rfl (rin_F _ _ _ q3 w3_12) ?_
              rintro _ w3_17 ⟨rfl, h3_17⟩
              refine ⟨_, rfl, ?_⟩
              have L3_17 := L3_12.trans h3_17
              refine W.any (.pickT rfl rfl rfl) rfl rfl rfl ?_
              refine W.any (.move rfl) rfl rfl rfl ?_
              refine W.skip rfl rfl rfl (rfl) rfl rfl ?_
              refine W.skip rfl rfl rfl (rfl) rfl rfl ?_
              refine W.skip rfl rfl rfl (rfl) rfl rfl ?_
              refine W.any (.pickF rfl rfl rfl) rfl rfl rfl ?_
              refine W.any (.assign rfl) rfl rfl rfl ?_
              refine W.nil ?_
              refine E.thenN ?_
              refine WC.ret ?_
              refine E.ret1 rfl rfl ?_
              exact ⟨congrArg (fun b => Ending.returned (Value.bool b)) (Eq.symm (by rw [mayB, decide_eq_false q3]; simp)), h0_0.trans L3_17⟩
          · refine W.efg rfl rfl rfl (rfl) rfl rfl ?_
            refine Ef.call go112 rfl rfl (rin_F _ _ _ q2 w3_7) ?_
            rintro _ w3_12 ⟨rfl, h3_12⟩
            refine ⟨_, rfl, ?_⟩
            have L3_12 := L3_7.trans h3_12
            refine W.any (.pickT rfl rfl rfl) rfl rfl rfl ?_
            refine W.any (.move rfl) rfl rfl rfl ?_
            refine W.skip rfl rfl rfl (rfl) rfl rfl ?_
            refine W.skip rfl rfl rfl (rfl) rfl rfl ?_
            refine W.skip rfl rfl rfl (rfl) rfl rfl ?_
            refine W.any (.pickF rfl rfl rfl) rfl rfl rfl ?_
            refine W.any (.move rfl) rfl rfl rfl ?_
            refine W.skip rfl rfl rfl (rfl) rfl rfl ?_
            refine W.skip rfl rfl rfl (rfl) rfl rfl ?_
            refine W.skip rfl rfl rfl (rfl) rfl rfl ?_
            refine W.any (.pickF rfl rfl rfl) rfl rfl rfl ?_
            refine W.any (.assign rfl) rfl rfl rfl ?_
            refine W.nil ?_
            refine E.thenN ?_
            refine WC.ret ?_
            refine E.ret1 rfl rfl ?_
            exact ⟨congrArg (fun b => Ending.returned (Value.bool b)) (Eq.symm (by rw [mayB, decide_eq_false q2]; simp)), h0_0.trans L3_12⟩
        · refine W.efg rfl rfl rfl (rfl) rfl rfl ?_
          refine Ef.call go112 rfl rfl (rin_F _ _ _ q1 w2_2) ?_
          rintro _ w3_7 ⟨rfl, h3_7⟩
          refine ⟨_, rfl, ?_⟩
          have L3_7 := L2_2.trans h3_7
          refine W.any (.pickT rfl rfl rfl) rfl rfl rfl ?_
          refine W.any (.move rfl) rfl rfl rfl ?_
          refine W.skip rfl rfl rfl (rfl) rfl rfl ?_
          refine W.skip rfl rfl rfl (rfl) rfl rfl ?_
          refine W.skip rfl rfl rfl (rfl) rfl rfl ?_
          refine W.any (.pickF rfl rfl rfl) rfl rfl rfl ?_
          refine W.any (.move rfl) rfl rfl rfl ?_
          refine W.skip rfl rfl rfl (rfl) rfl rfl ?_
          refine W.skip rfl rfl rfl (rfl) rfl rfl ?_
          refine W.skip rfl rfl rfl (rfl) rfl rfl ?_
          refine W.any (.pickF rfl rfl rfl) rfl rfl rfl ?_
          refine W.any (.move rfl) rfl rfl rfl ?_
          refine W.skip rfl rfl rfl (rfl) rfl rfl ?_
          refine W.skip rfl rfl rfl (rfl) rfl rfl ?_
          refine W.skip rfl rfl rfl (rfl) rfl rfl ?_
          refine W.any (.pickF rfl rfl rfl) rfl rfl rfl ?_
          refine W.any (.assign rfl) rfl rfl rfl ?_
          refine W.nil ?_
          refine E.thenN ?_
          refine WC.ret ?_
          refine E.ret1 rfl rfl ?_
          exact ⟨congrArg (fun b => Ending.returned (Value.bool b)) (Eq.symm (by rw [mayB, decide_eq_false q1]; simp)), h0_0.trans L3_7⟩
      · refine W.ef rfl rfl rfl ?_
        refine Ef.call go88 rfl rfl (rfright_F _ q5 w1_6) ?_
        rintro _ w2_2 ⟨rfl, h2_2⟩
        refine ⟨_, rfl, ?_⟩
        have L2_2 := L1_6.trans h2_2
        refine W.any (.assign rfl) rfl rfl rfl ?_
        refine W.nil ?_
        refine E.thenN ?_
        refine WC.seq ?_
        refine WC.region ?_
        refine W.any (.move rfl) rfl rfl rfl ?_
        refine W.any (.move rfl) rfl rfl rfl ?_
        refine W.rdg (Any.rd (.move rfl) _) rfl rfl rfl (rfl) rfl rfl ?_
        refine W.any (.pickT rfl rfl rfl) rfl rfl rfl ?_
        refine W.any (.move rfl) rfl rfl rfl ?_
        refine W.skip rfl rfl rfl (rfl) rfl rfl ?_
        refine W.skip rfl rfl rfl (rfl) rfl rfl ?_
        refine W.skip rfl rfl rfl (rfl) rfl rfl ?_
        refine W.any (.pickF rfl rfl rfl) rfl rfl rfl ?_
        refine W.any (.move rfl) rfl rfl rfl ?_
        refine W.skip rfl rfl rfl (rfl) rfl rfl ?_
        refine W.skip rfl rfl rfl (rfl) rfl rfl ?_
        refine W.skip rfl rfl rfl (rfl) rfl rfl ?_
        refine W.any (.pickF rfl rfl rfl) rfl rfl rfl ?_
        refine W.any (.move rfl) rfl rfl rfl ?_
        refine W.skip rfl rfl rfl (rfl) rfl rfl ?_
        refine W.skip rfl rfl rfl (rfl) rfl rfl ?_
        refine W.skip rfl rfl rfl (rfl) rfl rfl ?_
        refine W.any (.pickF rfl rfl rfl) rfl rfl rfl ?_
        refine W.any (.move rfl) rfl rfl rfl ?_
        refine W.skip rfl rfl rfl (rfl) rfl rfl ?_
        refine W.skip rfl rfl rfl (rfl) rfl rfl ?_
        refine W.skip rfl rfl rfl (rfl) rfl rfl ?_
        refine W.any (.pickF rfl rfl rfl) rfl rfl rfl ?_
        refine W.any (.assign rfl) rfl rfl rfl ?_
        refine W.nil ?_
        refine E.thenN ?_
        refine WC.ret ?_
        refine E.ret1 rfl rfl ?_
        exact ⟨congrArg (fun b => Ending.returned (Value.bool b)) (Eq.symm (by rw [mayB, decide_eq_false q5]; simp)), h0_0.trans L2_2⟩
    · refine W.efg rfl rfl rfl (rfl) rfl rfl ?_
      refine Ef.call go90 rfl rfl (rpright_F _ ho.2.2.2.2.1 (by simpa using q7) w0_0) ?_
      rintro _ w1_6 ⟨rfl, h1_6⟩
      refine ⟨_, rfl, ?_⟩
      have L1_6 := LL.trans h1_6
      refine W.any (.pickF rfl rfl rfl) rfl rfl rfl ?_
      refine W.any (.assign rfl) rfl rfl rfl ?_
      refine W.nil ?_
      refine E.thenN ?_
      refine WC.seq ?_
      refine WC.region ?_
      refine W.any (.field0 fa51_5 rfl) rfl rfl rfl ?_
      refine W.rd (.loadB na48 rfl (b0_0.le L1_6) (rfl)) rfl rfl rfl ?_
      by_cases q5 : h.2.2.2.2.2 < q
      · refine W.ef rfl rfl rfl ?_
        refine Ef.call go88 rfl rfl (rfright_T _ q5 w1_6) ?_
        rintro _ w2_2 ⟨rfl, h2_2⟩
        refine ⟨_, rfl, ?_⟩
        have L2_2 := L1_6.trans h2_2
        refine W.any (.assign rfl) rfl rfl rfl ?_
        refine W.nil ?_
        refine E.thenN ?_
        refine WC.seq ?_
        refine WC.region ?_
        refine W.any (.move rfl) rfl rfl rfl ?_
        refine W.any (.move rfl) rfl rfl rfl ?_
        refine W.skip rfl rfl rfl (rfl) rfl rfl ?_
        refine W.any (.pickF rfl rfl rfl) rfl rfl rfl ?_
        refine W.any (.move rfl) rfl rfl rfl ?_
        refine W.skip rfl rfl rfl (rfl) rfl rfl ?_
        refine W.skip rfl rfl rfl (rfl) rfl rfl ?_
        refine W.skip rfl rfl rfl (rfl) rfl rfl ?_
        refine W.any (.pickF rfl rfl rfl) rfl rfl rfl ?_
        refine W.any (.move rfl) rfl rfl rfl ?_
        refine W.skip rfl rfl rfl (rfl) rfl rfl ?_
        refine W.skip rfl rfl rfl (rfl) rfl rfl ?_
        refine W.skip rfl rfl rfl (rfl) rfl rfl ?_
        refine W.any (.pickF rfl rfl rfl) rfl rfl rfl ?_
        refine W.any (.move rfl) rfl rfl rfl ?_
        refine W.skip rfl rfl rfl (rfl) rfl rfl ?_
        refine W.skip rfl rfl rfl (rfl) rfl rfl ?_
        refine W.skip rfl rfl rfl (rfl) rfl rfl ?_
        refine W.any (.pickF rfl rfl rfl) rfl rfl rfl ?_
        refine W.any (.move rfl) rfl rfl rfl ?_
        refine W.skip rfl rfl rfl (rfl) rfl rfl ?_
        refine W.skip rfl rfl rfl (rfl) rfl rfl ?_
        refine W.skip rfl rfl rfl (rfl) rfl rfl ?_
        refine W.any (.pickF rfl rfl rfl) rfl rfl rfl ?_
        refine W.any (.assign rfl) rfl rfl rfl ?_
        refine W.nil ?_
        refine E.thenN ?_
        refine WC.ret ?_
        refine E.ret1 rfl rfl ?_
        exact ⟨congrArg (fun b => Ending.returned (Value.bool b)) (Eq.symm (by rw [mayB, decide_eq_false q6, show right h.2.2.2.2.1 = false by simpa using q7]; simp)), h0_0.trans L2_2⟩
      · refine W.ef rfl rfl rfl ?_
        refine Ef.call go88 rfl rfl (rfright_F _ q5 w1_6) ?_
        rintro _ w2_2 ⟨rfl, h2_2⟩
        refine ⟨_, rfl, ?_⟩
        have L2_2 := L1_6.trans h2_2
        refine W.any (.assign rfl) rfl rfl rfl ?_
        refine W.nil ?_
        refine E.thenN ?_
        refine WC.seq ?_
        refine WC.region ?_
        refine W.any (.move rfl) rfl rfl rfl ?_
        refine W.any (.move rfl) rfl rfl rfl ?_
        refine W.skip rfl rfl rfl (rfl) rfl rfl ?_
        refine W.any (.pickF rfl rfl rfl) rfl rfl rfl ?_
        refine W.any (.move rfl) rfl rfl rfl ?_
        refine W.skip rfl rfl rfl (rfl) rfl rfl ?_
        refine W.skip rfl rfl rfl (rfl) rfl rfl ?_
        refine W.skip rfl rfl rfl (rfl) rfl rfl ?_
        refine W.any (.pickF rfl rfl rfl) rfl rfl rfl ?_
        refine W.any (.move rfl) rfl rfl rfl ?_
        refine W.skip rfl rfl rfl (rfl) rfl rfl ?_
        refine W.skip rfl rfl rfl (rfl) rfl rfl ?_
        refine W.skip rfl rfl rfl (rfl) rfl rfl ?_
        refine W.any (.pickF rfl rfl rfl) rfl rfl rfl ?_
        refine W.any (.move rfl) rfl rfl rfl ?_
        refine W.skip rfl rfl rfl (rfl) rfl rfl ?_
        refine W.skip rfl rfl rfl (rfl) rfl rfl ?_
        refine W.skip rfl rfl rfl (rfl) rfl rfl ?_
        refine W.any (.pickF rfl rfl rfl) rfl rfl rfl ?_
        refine W.any (.move rfl) rfl rfl rfl ?_
        refine W.skip rfl rfl rfl (rfl) rfl rfl ?_
        refine W.skip rfl rfl rfl (rfl) rfl rfl ?_
        refine W.skip rfl rfl rfl (rfl) rfl rfl ?_
        refine W.any (.pickF rfl rfl rfl) rfl rfl rfl ?_
        refine W.any (.assign rfl) rfl rfl rfl ?_
        refine W.nil ?_
        refine E.thenN ?_
        refine WC.ret ?_
        refine E.ret1 rfl rfl ?_
        exact ⟨congrArg (fun b => Ending.returned (Value.bool b)) (Eq.symm (by rw [mayB, decide_eq_false q6, show right h.2.2.2.2.1 = false by simpa using q7]; simp)), h0_0.trans L2_2⟩

theorem rmay_T (h : Hop) (ho : HopOk h) (hy : mayB h = true) (w : World) : Calls Try.prog 72 #[.agg (hopV h).toArray] w fun e w' => e = .returned (.bool true) ∧ Le w w' := by
  have := rmay_ok h ho w
  rwa [hy] at this

theorem rmay_F (h : Hop) (ho : HopOk h) (hy : mayB h = false) (w : World) : Calls Try.prog 72 #[.agg (hopV h).toArray] w fun e w' => e = .returned (.bool false) ∧ Le w w' := by
  have := rmay_ok h ho w
  rwa [hy] at this

theorem rnumber_ok {A : Option Addr} {n c : Nat} {xs : List Byte} (w : World) (hS : Sb w A n xs) (h8 : 8 ≤ n) : Calls Try.prog 89 #[.slice A n c] w fun e w' => e = .returned (.int .u64 ((numB xs : Nat) : Int)) ∧ Le w w' := by
  have hl := hS.len
  refine enter Try.func89 rfl rfl ?_
  have L0 := Le.refl w
  refine WC.seq ?_
  refine WC.region ?_
  refine W.any (.assign rfl) rfl rfl rfl ?_
  refine W.nil ?_
  refine E.thenN ?_
  refine WC.seq ?_
  refine WC.region ?_
  refine W.any (.assign rfl) rfl rfl rfl ?_
  refine W.nil ?_
  refine E.thenN ?_
  refine WC.seq ?_
  refine WC.seq ?_
  refine WC.region ?_
  refine W.any (.assign rfl) rfl rfl rfl ?_
  refine W.nil ?_
  refine E.thenN ?_
  refine WC.block ?_
  refine WC.loop (ι := Nat) (fun k => [(0, .slice A n c), (3, .int .u64 ((numTo 0 (xs.take k) : Nat) : Int)), (4, .int .i64 (k : Int))]) (fun k wl => k ≤ 8 ∧ Le w wl) (fun k => 8 - k) 0 ?_ ?_ ?_
  · exact .cons rfl (.cons rfl (.cons rfl (.nil _)))
  · exact ⟨by omega, L0⟩
  · rintro k wl ⟨hk, Ll⟩
    refine WC.seq ?_
    refine WC.seq ?_
    refine WC.region ?_
    refine W.any (.move rfl) rfl rfl rfl ?_
    refine W.any (.lss rfl rfl) rfl rfl rfl ?_
    refine W.nil ?_
    refine E.thenN ?_
    refine WC.cond rfl (fun c0 => ?_) (fun c0 => ?_)
    · have hb : xs[k]? = some (xs.getD k 0) := by rw [List.getElem?_eq_getElem (by omega), List.getD_eq_getElem?_getD, List.getElem?_eq_getElem (by omega)]; rfl
      have hbl := (xs.getD k 0).isLt
      have hnl : numTo 0 (xs.take k) < 256 ^ 7 := by
        have h1 := numTo_lt (xs.take k) 0 0 (by decide)
        exact Nat.lt_of_lt_of_le h1 (Nat.pow_le_pow_right (by decide) (by rw [List.length_take]; omega))
      have hnl' : numTo 0 (xs.take k) < 72057594037927936 := hnl
      refine WC.skip ?_
      refine E.thenN ?_
      refine WC.seq ?_
      refine WC.block ?_
      refine WC.region ?_
      refine W.any (.move rfl) rfl rfl rfl ?_
      refine W.any (.shlN (numTo 0 (xs.take k)) (8) (numTo 0 (xs.take k) * 256) rfl rfl rfl rfl (by decide) (by omega)) rfl rfl rfl ?_
      refine W.any (.move rfl) rfl rfl rfl ?_
      refine W.any (.move rfl) rfl rfl rfl ?_
      refine W.any (.idxS1 (k) Try.underlying24 sz5 rfl rfl (hS.isSome (by omega)) (rfl) (by omega)) rfl rfl rfl ?_
      refine W.rd (.loadS na5 rfl (hS.le Ll) (getb xs (by omega))) rfl rfl rfl ?_
      refine W.rd (.u8to64 (isS Try.underlying5) Try.underlying47 rfl) rfl rfl rfl ?_
      refine W.any (.orE (numTo 0 (xs.take k) * 256) ((xs.getD k 0).toNat) (numTo 0 (xs.take k) * 256 + (xs.getD k 0).toNat) rfl rfl rfl rfl (by omega) (by omega) (or_byte _ _ hbl)) rfl rfl rfl ?_
      refine W.any (.assign rfl) rfl rfl rfl ?_
      refine W.nil ?_
      refine E.blkN ?_
      refine E.thenN ?_
      refine WC.region ?_
      refine W.any (.move rfl) rfl rfl rfl ?_
      refine W.any (.add rfl rfl (by omega)) rfl rfl rfl ?_
      refine W.any (.assign rfl) rfl rfl rfl ?_
      refine W.nil ?_
      refine E.again (k + 1) (.cons rfl (.cons' rfl (int_eq (congrArg Nat.cast (by rw [numTo_snoc xs k 0 _ hb]))) (.cons rfl (.nil _)))) ?_ ?_
      · exact ⟨by omega, Ll⟩
      · first | omega | (simp only []; omega)
    · have hk8 : k = 8 := by omega
      subst hk8
      refine WC.exit ?_
      refine E.thenX ?_
      refine E.thenX ?_
      refine E.blkH ?_
      refine E.thenN ?_
      refine WC.seq ?_
      refine WC.region ?_
      refine W.any (.move rfl) rfl rfl rfl ?_
      refine W.any (.assign rfl) rfl rfl rfl ?_
      refine W.nil ?_
      refine E.thenN ?_
      refine WC.ret ?_
      refine E.ret1 rfl rfl ?_
      exact ⟨rfl, Ll⟩

theorem rread_ok {A : Option Addr} {n c : Nat} {xs : List Byte} (w : World) (hS : Sb w A n xs) (h48 : 48 ≤ n) (hc : n ≤ c) : Calls Try.prog 93 #[.slice A n c] w fun e w' => e = .returned (.agg (hopV (readH xs)).toArray) ∧ Le w w' := by
  refine enter Try.func93 rfl rfl ?_
  have L0 := Le.refl w
  refine WC.seq ?_
  refine WC.region ?_
  refine W.ef rfl rfl rfl ?_
  refine Ef.allocA z51 ?_
  intro g0_0 w0_0 hg0_0 b0_0 h0_0
  have L0_0 := L0.trans h0_0
  have b0 : Blk w0_0 g0_0 51 (hopV noHop).toArray := b0_0
  have lt0 := b0.lt
  refine W.nil ?_
  refine E.thenN ?_
  refine WC.cut (ι := Nat) (fun g3 => [(0, .slice A n c), (2, .pointer (some ⟨g0_0, 0, none⟩)), (3, .pointer (some ⟨g3, 0, none⟩))]) (fun g3 wc => Le w wc ∧ Blk wc g0_0 51 (hopV noHop).toArray ∧ Blk wc g3 51 (hopV (sgn (numB xs), sgn (numB (xs.drop 8)), sgn (numB (xs.drop 16)), sgn (numB (xs.drop 24)), 0, 0)).toArray ∧ w0_0.heap.size ≤ g3) ?_ ?_
  · refine WC.drawT (fun o => (app o [0, 3, 4, 7, 8, 11, 12] (.br (app o [1, 2] (.br (app o [5, 6] (.br (app o [9, 10] (.br (app o [13, 14, 15, 16, 17] .nil) (app o [16, 13, 14, 15, 17] .nil))) (app o [16, 9, 10, 13, 14, 15, 17] .nil))) (app o [16, 5, 6, 9, 10, 13, 14, 15, 17] .nil))) (app o [16, 1, 2, 5, 6, 9, 10, 13, 14, 15, 17] .nil)))) mixed (by kernel_rfl) ?_
    intro w1 d1
    have L1 := L0_0.trans d1
    refine GT.app ?_
    refine G.any rfl rfl (.move rfl) rfl rfl rfl ?_
    refine G.any rfl rfl (.move rfl) rfl rfl rfl ?_
    refine G.any rfl rfl (.cutL (8) Try.underlying24 sz5 rfl rfl (rfl) (by omega) (hc)) rfl rfl rfl ?_
    refine G.any rfl rfl (.move rfl) rfl rfl rfl ?_
    refine G.any rfl rfl (.cutL (16) Try.underlying24 sz5 rfl rfl (rfl) (by omega) (hc)) rfl rfl rfl ?_
    refine G.any rfl rfl (.move rfl) rfl rfl rfl ?_
    refine G.any rfl rfl (.cutL (24) Try.underlying24 sz5 rfl rfl (rfl) (by omega) (hc)) rfl rfl rfl ?_
    refine G.nil ?_
    refine GT.br ?_ ?_
    · refine GT.app ?_
      refine G.ef rfl rfl rfl rfl rfl ?_
      refine Ef.call go89 rfl rfl (rnumber_ok w1 (hS.le L1) (by omega)) ?_
      rintro _ w1_1 ⟨rfl, h1_1⟩
      refine ⟨_, rfl, ?_⟩
      have L1_1 := L1.trans h1_1
      refine ⟨fun _ => h1_1, ?_⟩
      refine G.rd rfl rfl (.convEq (isS Try.underlying47) Try.underlying3 rfl (wrap_sgn _ (numB_lt _))) rfl rfl rfl ?_
      refine G.nil ?_
      refine GT.br ?_ ?_
      · refine GT.app ?_
        refine G.ef rfl rfl rfl rfl rfl ?_
        refine Ef.call go89 rfl rfl (rnumber_ok w1_1 ((hS.le L1_1).cutL c 8 (by omega) hc) (by omega)) ?_
        rintro _ w1_5 ⟨rfl, h1_5⟩
        refine ⟨_, rfl, ?_⟩
        have L1_5 := L1_1.trans h1_5
        refine ⟨fun _ => h1_5, ?_⟩
        refine G.rd rfl rfl (.convEq (isS Try.underlying47) Try.underlying3 rfl (wrap_sgn _ (numB_lt _))) rfl rfl rfl ?_
        refine G.nil ?_
        refine GT.br ?_ ?_
        · refine GT.app ?_
          refine G.ef rfl rfl rfl rfl rfl ?_
          refine Ef.call go89 rfl rfl (rnumber_ok w1_5 ((hS.le L1_5).cutL c 16 (by omega) hc) (by omega)) ?_
          rintro _ w1_9 ⟨rfl, h1_9⟩
          refine ⟨_, rfl, ?_⟩
          have L1_9 := L1_5.trans h1_9
          refine ⟨fun _ => h1_9, ?_⟩
          refine G.rd rfl rfl (.convEq (isS Try.underlying47) Try.underlying3 rfl (wrap_sgn _ (numB_lt _))) rfl rfl rfl ?_
          refine G.nil ?_
          refine GT.br ?_ ?_
          · refine GT.last ?_
            refine G.ef rfl rfl rfl rfl rfl ?_
            refine Ef.call go89 rfl rfl (rnumber_ok w1_9 ((hS.le L1_9).cutL c 24 (by omega) hc) (by omega)) ?_
            rintro _ w1_13 ⟨rfl, h1_13⟩
            refine ⟨_, rfl, ?_⟩
            have L1_13 := L1_9.trans h1_13
            refine ⟨fun _ => h1_13, ?_⟩
            refine G.rd rfl rfl (.convEq (isS Try.underlying47) Try.underlying3 rfl (wrap_sgn _ (numB_lt _))) rfl rfl rfl ?_
            refine G.any rfl rfl (.buildF pl51 z51 rfl (show Instr.fill _ _ _ = some (hopV (sgn (numB xs), sgn (numB (xs.drop 8)), sgn (numB (xs.drop 16)), sgn (numB (xs.drop 24)), 0, 0)).toArray from rfl)) rfl rfl rfl ?_
            refine G.ef rfl rfl rfl rfl rfl ?_
            refine Ef.allocA z51 ?_
            intro g1_16 w1_16 hg1_16 b1_16 h1_16
            have L1_16 := L1_13.trans h1_16
            refine ⟨fun _ => h1_16, ?_⟩
            refine G.ef0 rfl rfl rfl rfl ?_
            refine Ef.storeAll sz51 (by rfl) rfl rfl ((by first | exact b1_16 | exact (b1_16).le h1_13 | exact ((b1_16).le h1_9).le h1_13 | exact (((b1_16).le h1_5).le h1_9).le h1_13 | exact ((((b1_16).le h1_1).le h1_5).le h1_9).le h1_13)) (by rfl) (hopV_one _) ?_
            intro w1_17 b1_17 h1_17
            have L1_17 : Le w w1_17 := L1_16.then_ h1_17 (fun q hq => by cases hq; first | exact Nat.le_trans L1.size hg1_16 | exact Nat.le_trans L1_1.size hg1_16 | exact Nat.le_trans L1_5.size hg1_16 | exact Nat.le_trans L1_9.size hg1_16 | exact Nat.le_trans L1_13.size hg1_16)
            refine ⟨fun h => absurd h (ne_true_of_eq_false (by kernel_rfl)), ?_⟩
            refine G.nil ?_
            refine E.meet g1_16 (.cons rfl (.cons rfl (.cons rfl (.nil _)))) ?_
            obtain ⟨wz, LL, hz⟩ : ∃ wz, Le w1 wz ∧ Ch wz w1_17 (some g1_16) := by first | exact ⟨_, h1_16.trans (h1_1.trans (h1_5.trans (h1_9.trans h1_13))), h1_17⟩ | exact ⟨_, h1_1.trans (h1_16.trans (h1_5.trans (h1_9.trans h1_13))), h1_17⟩ | exact ⟨_, h1_1.trans (h1_5.trans (h1_16.trans (h1_9.trans h1_13))), h1_17⟩ | exact ⟨_, h1_1.trans (h1_5.trans (h1_9.trans (h1_16.trans h1_13))), h1_17⟩ | exact ⟨_, h1_1.trans (h1_5.trans (h1_9.trans (h1_13.trans h1_16))), h1_17⟩
            have hwg : w0_0.heap.size ≤ g1_16 := by have e1 := d1.size; have e2 := h1_1.size; have e3 := h1_5.size; have e4 := h1_9.size; have e5 := h1_13.size; omega
            exact ⟨L1_17, (b0.le (d1.trans LL)).ch hz (by simp; omega), b1_17, hwg⟩
          · refine GT.last ?_
            refine G.ef rfl rfl rfl rfl rfl ?_
            refine Ef.allocA z51 ?_
            intro g1_16 w1_16 hg1_16 b1_16 h1_16
            have L1_16 := L1_9.trans h1_16
            refine ⟨fun _ => h1_16, ?_⟩
            refine G.ef rfl rfl rfl rfl rfl ?_
            refine Ef.call go89 rfl rfl (rnumber_ok w1_16 ((hS.le L1_16).cutL c 24 (by omega) hc) (by omega)) ?_
            rintro _ w1_13 ⟨rfl, h1_13⟩
            refine ⟨_, rfl, ?_⟩
            have L1_13 := L1_16.trans h1_13
            refine ⟨fun _ => h1_13, ?_⟩
            refine G.rd rfl rfl (.convEq (isS Try.underlying47) Try.underlying3 rfl (wrap_sgn _ (numB_lt _))) rfl rfl rfl ?_
            refine G.any rfl rfl (.buildF pl51 z51 rfl (show Instr.fill _ _ _ = some (hopV (sgn (numB xs), sgn (numB (xs.drop 8)), sgn (numB (xs.drop 16)), sgn (numB (xs.drop 24)), 0, 0)).toArray from rfl)) rfl rfl rfl ?_
            refine G.ef0 rfl rfl rfl rfl ?_
            refine Ef.storeAll sz51 (by rfl) rfl rfl ((by first | exact b1_16 | exact (b1_16).le h1_13 | exact ((b1_16).le h1_9).le h1_13 | exact (((b1_16).le h1_5).le h1_9).le h1_13 | exact ((((b1_16).le h1_1).le h1_5).le h1_9).le h1_13)) (by rfl) (hopV_one _) ?_
            intro w1_17 b1_17 h1_17
            have L1_17 : Le w w1_17 := L1_13.then_ h1_17 (fun q hq => by cases hq; first | exact Nat.le_trans L1.size hg1_16 | exact Nat.le_trans L1_1.size hg1_16 | exact Nat.le_trans L1_5.size hg1_16 | exact Nat.le_trans L1_9.size hg1_16 | exact Nat.le_trans L1_13.size hg1_16)
            refine ⟨fun h => absurd h (ne_true_of_eq_false (by kernel_rfl)), ?_⟩
            refine G.nil ?_
            refine E.meet g1_16 (.cons rfl (.cons rfl (.cons rfl (.nil _)))) ?_
            obtain ⟨wz, LL, hz⟩ : ∃ wz, Le w1 wz ∧ Ch wz w1_17 (some g1_16) := by first | exact ⟨_, h1_16.trans (h1_1.trans (h1_5.trans (h1_9.trans h1_13))), h1_17⟩ | exact ⟨_, h1_1.trans (h1_16.trans (h1_5.trans (h1_9.trans h1_13))), h1_17⟩ | exact ⟨_, h1_1.trans (h1_5.trans (h1_16.trans (h1_9.trans h1_13))), h1_17⟩ | exact ⟨_, h1_1.trans (h1_5.trans (h1_9.trans (h1_16.trans h1_13))), h1_17⟩ | exact ⟨_, h1_1.trans (h1_5.trans (h1_9.trans (h1_13.trans h1_16))), h1_17⟩
            have hwg : w0_0.heap.size ≤ g1_16 := by have e1 := d1.size; have e2 := h1_1.size; have e3 := h1_5.size; have e4 := h1_9.size; have e5 := h1_13.size; omega
            exact ⟨L1_17, (b0.le (d1.trans LL)).ch hz (by simp; omega), b1_17, hwg⟩
        · refine GT.last ?_
          refine G.ef rfl rfl rfl rfl rfl ?_
          refine Ef.allocA z51 ?_
          intro g1_16 w1_16 hg1_16 b1_16 h1_16
          have L1_16 := L1_5.trans h1_16
          refine ⟨fun _ => h1_16, ?_⟩
          refine G.ef rfl rfl rfl rfl rfl ?_
          refine Ef.call go89 rfl rfl (rnumber_ok w1_16 ((hS.le L1_16).cutL c 16 (by omega) hc) (by omega)) ?_
          rintro _ w1_9 ⟨rfl, h1_9⟩
          refine ⟨_, rfl, ?_⟩
          have L1_9 := L1_16.trans h1_9
          refine ⟨fun _ => h1_9, ?_⟩
          refine G.rd rfl rfl (.convEq (isS Try.underlying47) Try.underlying3 rfl (wrap_sgn _ (numB_lt _))) rfl rfl rfl ?_
          refine G.ef rfl rfl rfl rfl rfl ?_
          refine Ef.call go89 rfl rfl (rnumber_ok w1_9 ((hS.le L1_9).cutL c 24 (by omega) hc) (by omega)) ?_
          rintro _ w1_13 ⟨rfl, h1_13⟩
          refine ⟨_, rfl, ?_⟩
          have L1_13 := L1_9.trans h1_13
          refine ⟨fun _ => h1_13, ?_⟩
          refine G.rd rfl rfl (.convEq (isS Try.underlying47) Try.underlying3 rfl (wrap_sgn _ (numB_lt _))) rfl rfl rfl ?_
          refine G.any rfl rfl (.buildF pl51 z51 rfl (show Instr.fill _ _ _ = some (hopV (sgn (numB xs), sgn (numB (xs.drop 8)), sgn (numB (xs.drop 16)), sgn (numB (xs.drop 24)), 0, 0)).toArray from rfl)) rfl rfl rfl ?_
          refine G.ef0 rfl rfl rfl rfl ?_
          refine Ef.storeAll sz51 (by rfl) rfl rfl ((by first | exact b1_16 | exact (b1_16).le h1_13 | exact ((b1_16).le h1_9).le h1_13 | exact (((b1_16).le h1_5).le h1_9).le h1_13 | exact ((((b1_16).le h1_1).le h1_5).le h1_9).le h1_13)) (by rfl) (hopV_one _) ?_
          intro w1_17 b1_17 h1_17
          have L1_17 : Le w w1_17 := L1_13.then_ h1_17 (fun q hq => by cases hq; first | exact Nat.le_trans L1.size hg1_16 | exact Nat.le_trans L1_1.size hg1_16 | exact Nat.le_trans L1_5.size hg1_16 | exact Nat.le_trans L1_9.size hg1_16 | exact Nat.le_trans L1_13.size hg1_16)
          refine ⟨fun h => absurd h (ne_true_of_eq_false (by kernel_rfl)), ?_⟩
          refine G.nil ?_
          refine E.meet g1_16 (.cons rfl (.cons rfl (.cons rfl (.nil _)))) ?_
          obtain ⟨wz, LL, hz⟩ : ∃ wz, Le w1 wz ∧ Ch wz w1_17 (some g1_16) := by first | exact ⟨_, h1_16.trans (h1_1.trans (h1_5.trans (h1_9.trans h1_13))), h1_17⟩ | exact ⟨_, h1_1.trans (h1_16.trans (h1_5.trans (h1_9.trans h1_13))), h1_17⟩ | exact ⟨_, h1_1.trans (h1_5.trans (h1_16.trans (h1_9.trans h1_13))), h1_17⟩ | exact ⟨_, h1_1.trans (h1_5.trans (h1_9.trans (h1_16.trans h1_13))), h1_17⟩ | exact ⟨_, h1_1.trans (h1_5.trans (h1_9.trans (h1_13.trans h1_16))), h1_17⟩
          have hwg : w0_0.heap.size ≤ g1_16 := by have e1 := d1.size; have e2 := h1_1.size; have e3 := h1_5.size; have e4 := h1_9.size; have e5 := h1_13.size; omega
          exact ⟨L1_17, (b0.le (d1.trans LL)).ch hz (by simp; omega), b1_17, hwg⟩
      · refine GT.last ?_
        refine G.ef rfl rfl rfl rfl rfl ?_
        refine Ef.allocA z51 ?_
        intro g1_16 w1_16 hg1_16 b1_16 h1_16
        have L1_16 := L1_1.trans h1_16
        refine ⟨fun _ => h1_16, ?_⟩
        refine G.ef rfl rfl rfl rfl rfl ?_
        refine Ef.call go89 rfl rfl (rnumber_ok w1_16 ((hS.le L1_16).cutL c 8 (by omega) hc) (by omega)) ?_
        rintro _ w1_5 ⟨rfl, h1_5⟩
        refine ⟨_, rfl, ?_⟩
        have L1_5 := L1_16.trans h1_5
        refine ⟨fun _ => h1_5, ?_⟩
        refine G.rd rfl rfl (.convEq (isS Try.underlying47) Try.underlying3 rfl (wrap_sgn _ (numB_lt _))) rfl rfl rfl ?_
        refine G.ef rfl rfl rfl rfl rfl ?_
        refine Ef.call go89 rfl rfl (rnumber_ok w1_5 ((hS.le L1_5).cutL c 16 (by omega) hc) (by omega)) ?_
        rintro _ w1_9 ⟨rfl, h1_9⟩
        refine ⟨_, rfl, ?_⟩
        have L1_9 := L1_5.trans h1_9
        refine ⟨fun _ => h1_9, ?_⟩
        refine G.rd rfl rfl (.convEq (isS Try.underlying47) Try.underlying3 rfl (wrap_sgn _ (numB_lt _))) rfl rfl rfl ?_
        refine G.ef rfl rfl rfl rfl rfl ?_
        refine Ef.call go89 rfl rfl (rnumber_ok w1_9 ((hS.le L1_9).cutL c 24 (by omega) hc) (by omega)) ?_
        rintro _ w1_13 ⟨rfl, h1_13⟩
        refine ⟨_, rfl, ?_⟩
        have L1_13 := L1_9.trans h1_13
        refine ⟨fun _ => h1_13, ?_⟩
        refine G.rd rfl rfl (.convEq (isS Try.underlying47) Try.underlying3 rfl (wrap_sgn _ (numB_lt _))) rfl rfl rfl ?_
        refine G.any rfl rfl (.buildF pl51 z51 rfl (show Instr.fill _ _ _ = some (hopV (sgn (numB xs), sgn (numB (xs.drop 8)), sgn (numB (xs.drop 16)), sgn (numB (xs.drop 24)), 0, 0)).toArray from rfl)) rfl rfl rfl ?_
        refine G.ef0 rfl rfl rfl rfl ?_
        refine Ef.storeAll sz51 (by rfl) rfl rfl ((by first | exact b1_16 | exact (b1_16).le h1_13 | exact ((b1_16).le h1_9).le h1_13 | exact (((b1_16).le h1_5).le h1_9).le h1_13 | exact ((((b1_16).le h1_1).le h1_5).le h1_9).le h1_13)) (by rfl) (hopV_one _) ?_
        intro w1_17 b1_17 h1_17
        have L1_17 : Le w w1_17 := L1_13.then_ h1_17 (fun q hq => by cases hq; first | exact Nat.le_trans L1.size hg1_16 | exact Nat.le_trans L1_1.size hg1_16 | exact Nat.le_trans L1_5.size hg1_16 | exact Nat.le_trans L1_9.size hg1_16 | exact Nat.le_trans L1_13.size hg1_16)
        refine ⟨fun h => absurd h (ne_true_of_eq_false (by kernel_rfl)), ?_⟩
        refine G.nil ?_
        refine E.meet g1_16 (.cons rfl (.cons rfl (.cons rfl (.nil _)))) ?_
        obtain ⟨wz, LL, hz⟩ : ∃ wz, Le w1 wz ∧ Ch wz w1_17 (some g1_16) := by first | exact ⟨_, h1_16.trans (h1_1.trans (h1_5.trans (h1_9.trans h1_13))), h1_17⟩ | exact ⟨_, h1_1.trans (h1_16.trans (h1_5.trans (h1_9.trans h1_13))), h1_17⟩ | exact ⟨_, h1_1.trans (h1_5.trans (h1_16.trans (h1_9.trans h1_13))), h1_17⟩ | exact ⟨_, h1_1.trans (h1_5.trans (h1_9.trans (h1_16.trans h1_13))), h1_17⟩ | exact ⟨_, h1_1.trans (h1_5.trans (h1_9.trans (h1_13.trans h1_16))), h1_17⟩
        have hwg : w0_0.heap.size ≤ g1_16 := by have e1 := d1.size; have e2 := h1_1.size; have e3 := h1_5.size; have e4 := h1_9.size; have e5 := h1_13.size; omega
        exact ⟨L1_17, (b0.le (d1.trans LL)).ch hz (by simp; omega), b1_17, hwg⟩
    · refine GT.last ?_
      refine G.ef rfl rfl rfl rfl rfl ?_
      refine Ef.allocA z51 ?_
      intro g1_16 w1_16 hg1_16 b1_16 h1_16
      have L1_16 := L1.trans h1_16
      refine ⟨fun _ => h1_16, ?_⟩
      refine G.ef rfl rfl rfl rfl rfl ?_
      refine Ef.call go89 rfl rfl (rnumber_ok w1_16 (hS.le L1_16) (by omega)) ?_
      rintro _ w1_1 ⟨rfl, h1_1⟩
      refine ⟨_, rfl, ?_⟩
      have L1_1 := L1_16.trans h1_1
      refine ⟨fun _ => h1_1, ?_⟩
      refine G.rd rfl rfl (.convEq (isS Try.underlying47) Try.underlying3 rfl (wrap_sgn _ (numB_lt _))) rfl rfl rfl ?_
      refine G.ef rfl rfl rfl rfl rfl ?_
      refine Ef.call go89 rfl rfl (rnumber_ok w1_1 ((hS.le L1_1).cutL c 8 (by omega) hc) (by omega)) ?_
      rintro _ w1_5 ⟨rfl, h1_5⟩
      refine ⟨_, rfl, ?_⟩
      have L1_5 := L1_1.trans h1_5
      refine ⟨fun _ => h1_5, ?_⟩
      refine G.rd rfl rfl (.convEq (isS Try.underlying47) Try.underlying3 rfl (wrap_sgn _ (numB_lt _))) rfl rfl rfl ?_
      refine G.ef rfl rfl rfl rfl rfl ?_
      refine Ef.call go89 rfl rfl (rnumber_ok w1_5 ((hS.le L1_5).cutL c 16 (by omega) hc) (by omega)) ?_
      rintro _ w1_9 ⟨rfl, h1_9⟩
      refine ⟨_, rfl, ?_⟩
      have L1_9 := L1_5.trans h1_9
      refine ⟨fun _ => h1_9, ?_⟩
      refine G.rd rfl rfl (.convEq (isS Try.underlying47) Try.underlying3 rfl (wrap_sgn _ (numB_lt _))) rfl rfl rfl ?_
      refine G.ef rfl rfl rfl rfl rfl ?_
      refine Ef.call go89 rfl rfl (rnumber_ok w1_9 ((hS.le L1_9).cutL c 24 (by omega) hc) (by omega)) ?_
      rintro _ w1_13 ⟨rfl, h1_13⟩
      refine ⟨_, rfl, ?_⟩
      have L1_13 := L1_9.trans h1_13
      refine ⟨fun _ => h1_13, ?_⟩
      refine G.rd rfl rfl (.convEq (isS Try.underlying47) Try.underlying3 rfl (wrap_sgn _ (numB_lt _))) rfl rfl rfl ?_
      refine G.any rfl rfl (.buildF pl51 z51 rfl (show Instr.fill _ _ _ = some (hopV (sgn (numB xs), sgn (numB (xs.drop 8)), sgn (numB (xs.drop 16)), sgn (numB (xs.drop 24)), 0, 0)).toArray from rfl)) rfl rfl rfl ?_
      refine G.ef0 rfl rfl rfl rfl ?_
      refine Ef.storeAll sz51 (by rfl) rfl rfl ((by first | exact b1_16 | exact (b1_16).le h1_13 | exact ((b1_16).le h1_9).le h1_13 | exact (((b1_16).le h1_5).le h1_9).le h1_13 | exact ((((b1_16).le h1_1).le h1_5).le h1_9).le h1_13)) (by rfl) (hopV_one _) ?_
      intro w1_17 b1_17 h1_17
      have L1_17 : Le w w1_17 := L1_13.then_ h1_17 (fun q hq => by cases hq; first | exact Nat.le_trans L1.size hg1_16 | exact Nat.le_trans L1_1.size hg1_16 | exact Nat.le_trans L1_5.size hg1_16 | exact Nat.le_trans L1_9.size hg1_16 | exact Nat.le_trans L1_13.size hg1_16)
      refine ⟨fun h => absurd h (ne_true_of_eq_false (by kernel_rfl)), ?_⟩
      refine G.nil ?_
      refine E.meet g1_16 (.cons rfl (.cons rfl (.cons rfl (.nil _)))) ?_
      obtain ⟨wz, LL, hz⟩ : ∃ wz, Le w1 wz ∧ Ch wz w1_17 (some g1_16) := by first | exact ⟨_, h1_16.trans (h1_1.trans (h1_5.trans (h1_9.trans h1_13))), h1_17⟩ | exact ⟨_, h1_1.trans (h1_16.trans (h1_5.trans (h1_9.trans h1_13))), h1_17⟩ | exact ⟨_, h1_1.trans (h1_5.trans (h1_16.trans (h1_9.trans h1_13))), h1_17⟩ | exact ⟨_, h1_1.trans (h1_5.trans (h1_9.trans (h1_16.trans h1_13))), h1_17⟩ | exact ⟨_, h1_1.trans (h1_5.trans (h1_9.trans (h1_13.trans h1_16))), h1_17⟩
      have hwg : w0_0.heap.size ≤ g1_16 := by have e1 := d1.size; have e2 := h1_1.size; have e3 := h1_5.size; have e4 := h1_9.size; have e5 := h1_13.size; omega
      exact ⟨L1_17, (b0.le (d1.trans LL)).ch hz (by simp; omega), b1_17, hwg⟩
  · rintro g3 wc ⟨Lc, b2, b3, hg3⟩
    refine WC.seq ?_
    refine WC.region ?_
    refine W.any (.move rfl) rfl rfl rfl ?_
    refine W.any (.cutL (32) Try.underlying24 sz5 rfl rfl (rfl) (by omega) (hc)) rfl rfl rfl ?_
    refine W.ef rfl rfl rfl ?_
    refine Ef.call go89 rfl rfl (rnumber_ok wc ((hS.le Lc).cutL c 32 (by omega) hc) (by omega)) ?_
    rintro _ w2_2 ⟨rfl, h2_2⟩
    refine ⟨_, rfl, ?_⟩
    have L2_2 := Lc.trans h2_2
    refine W.any (.field0 fa51_4 rfl) rfl rfl rfl ?_
    refine W.ef0 rfl rfl ?_
    refine Ef.store sz49 rfl rfl (b3.le h2_2) (by simp [hopV]) (rfl) ?_
    intro w2_4 b2_4 h2_4
    have L2_4 : Le w w2_4 := L2_2.then_ h2_4 (fun q hq => by cases hq; exact Nat.le_trans L0_0.size hg3)
    have b2 := (b2.le h2_2).ch h2_4 (by simp; omega)
    refine W.nil ?_
    refine E.thenN ?_
    refine WC.seq ?_
    refine WC.region ?_
    refine W.any (.move rfl) rfl rfl rfl ?_
    refine W.any (.cutL (40) Try.underlying24 sz5 rfl rfl (rfl) (by omega) (hc)) rfl rfl rfl ?_
    refine W.ef rfl rfl rfl ?_
    refine Ef.call go89 rfl rfl (rnumber_ok w2_4 ((hS.le L2_4).cutL c 40 (by omega) hc) (by omega)) ?_
    rintro _ w3_2 ⟨rfl, h3_2⟩
    refine ⟨_, rfl, ?_⟩
    have L3_2 := L2_4.trans h3_2
    refine W.any (.field0 fa51_5 rfl) rfl rfl rfl ?_
    refine W.ef0 rfl rfl ?_
    refine Ef.store sz48 rfl rfl (b2_4.le h3_2) (by simp [hopV]) (rfl) ?_
    intro w3_4 b3_4 h3_4
    have L3_4 : Le w w3_4 := L3_2.then_ h3_4 (fun q hq => by cases hq; exact Nat.le_trans L0_0.size hg3)
    have b2 := (b2.le h3_2).ch h3_4 (by simp; omega)
    have b9 : Blk w3_4 g3 51 (hopV (readH xs)).toArray := b3_4.cast (by rfl)
    refine W.nil ?_
    refine E.thenN ?_
    refine WC.seq ?_
    refine WC.region ?_
    refine W.rd (.loadAll ag51 (by rfl) rfl (b9)) rfl rfl rfl ?_
    refine W.ef0 rfl rfl ?_
    refine Ef.storeAll sz51 (by rfl) rfl rfl (b2) (by rfl) (hopV_one _) ?_
    intro w4_1 b4_1 h4_1
    have L4_1 : Le w w4_1 := L3_4.then_ h4_1 (fun q hq => by cases hq; exact hg0_0)
    refine W.nil ?_
    refine E.thenN ?_
    refine WC.ret ?_
    refine E.retC rfl rfl b4_1 ag51 (by rfl) ?_
    exact ⟨rfl, L4_1⟩

theorem rshared_ok (p : Nat) (hp : p < 18446744073709551616) (w : World) : Calls Try.prog 91 #[.int .u64 ((p : Nat) : Int)] w fun e w' => e = .returned (.agg ((sharedB p).map u8v).toArray) ∧ Le w w' := by
  refine enter Try.func91 rfl rfl ?_
  have L0 := Le.refl w
  refine WC.seq ?_
  refine WC.region ?_
  refine W.ef rfl rfl rfl ?_
  refine Ef.allocA z23 ?_
  intro g0_0 w0_0 hg0_0 b0_0 h0_0
  have L0_0 := L0.trans h0_0
  refine W.nil ?_
  refine E.thenN ?_
  refine WC.seq ?_
  refine WC.region ?_
  refine W.any (.move rfl) rfl rfl rfl ?_
  refine W.ef rfl rfl rfl ?_
  refine Ef.call go80 rfl rfl (r8_ok p hp w0_0) ?_
  rintro _ w1_1 ⟨A1, c1, rfl, o1, h1_1⟩
  refine ⟨_, rfl, ?_⟩
  have L1_1 := L0_0.trans h1_1
  refine W.ef rfl rfl rfl ?_
  refine Ef.buildSlice1 Try.underlying135 el24 rfl rfl ?_
  intro g1_2 w1_2 hg1_2 b1_2 h1_2
  have L1_2 := L1_1.trans h1_2
  refine W.ef rfl rfl rfl ?_
  refine Ef.call go56 rfl rfl (rtag_ok _ nShared w1_2 (ps := [be8 p]) rfl (b1_2.sl (s := 1) (n := 1) rfl) (.cons (o1.le h1_2).sb (.nil _)) (by rw [tagLen1, be8_length]; decide)) ?_
  rintro _ w1_3 ⟨rfl, h1_3⟩
  refine ⟨_, rfl, ?_⟩
  have L1_3 := L1_2.trans h1_3
  refine W.ef0 rfl rfl ?_
  refine Ef.storeAll sz23 (by simp [tag_length]) rfl rfl (((b0_0.le h1_1).le h1_2).le h1_3) (by simp [tag_length]) (all_u8v _) ?_
  intro w1_4 b1_4 h1_4
  have L1_4 : Le w w1_4 := L1_3.then_ h1_4 (fun q hq => by cases hq; exact hg0_0)
  refine W.nil ?_
  refine E.thenN ?_
  refine WC.ret ?_
  refine E.retC rfl rfl b1_4 ag23 (by simp [tag_length]) ?_
  exact ⟨rfl, L1_4⟩

theorem rblind_ok (s : Stop) (hs : s.2.length = 32) (he : s.1 < 18446744073709551616) (w : World) : Calls Try.prog 94 #[.int .u64 ((s.1 : Nat) : Int), .agg (s.2.map u8v).toArray] w fun e w' => e = .returned (.int .u64 ((blindB s : Nat) : Int)) ∧ Le w w' := by
  refine enter Try.func94 rfl rfl ?_
  have L0 := Le.refl w
  refine WC.seq ?_
  refine WC.region ?_
  refine W.ef rfl rfl rfl ?_
  refine Ef.boxA rfl ?_
  intro g0_0 w0_0 hg0_0 b0_0 h0_0
  have L0_0 := L0.trans h0_0
  have LL := Le.refl w0_0
  refine W.any (.assign rfl) rfl rfl rfl ?_
  refine W.nil ?_
  refine E.thenN ?_
  refine WC.seq ?_
  refine WC.draw [0, 2, 1, 3, 4, 5, 6] mixed (by kernel_rfl) ?_
  intro w1 d1
  have L1 := LL.trans d1
  refine G.any rfl rfl (.move rfl) rfl rfl rfl ?_
  refine G.any rfl rfl (.cutArr Try.underlying23 sz5 rfl) rfl rfl rfl ?_
  refine G.ef rfl rfl rfl rfl rfl ?_
  refine Ef.call go80 rfl rfl (r8_ok s.1 he w1) ?_
  rintro _ w1_1 ⟨A1, c1, rfl, o1, h1_1⟩
  refine ⟨_, rfl, ?_⟩
  have L1_1 := L1.trans h1_1
  refine ⟨fun _ => h1_1, ?_⟩
  refine G.ef rfl rfl rfl rfl rfl ?_
  refine Ef.buildSliceN [_, _] Try.underlying135 el24 rfl (one2 _ _ _ _ _ _) rfl (by decide) (by decide) ?_
  intro g1_3 w1_3 hg1_3 b1_3 h1_3
  have L1_3 := L1_1.trans h1_3
  refine ⟨fun _ => h1_3, ?_⟩
  refine G.ef rfl rfl rfl rfl rfl ?_
  refine Ef.call go56 rfl rfl (rtag_ok _ nBlind w1_3 (ps := [be8 s.1, s.2]) rfl (b1_3.sl (s := 1) (n := 2) rfl) (.cons (o1.le h1_3).sb (.cons ((b0_0.le L1_3).sb hs) (.nil _))) (by rw [tagLen2, be8_length, hs]; decide)) ?_
  rintro _ w1_4 ⟨rfl, h1_4⟩
  refine ⟨_, rfl, ?_⟩
  have L1_4 := L1_3.trans h1_4
  refine ⟨fun _ => h1_4, ?_⟩
  refine G.ef rfl rfl rfl rfl rfl ?_
  refine Ef.call go113 rfl rfl (rfrom_ok _ (tag_length _ _) w1_4) ?_
  rintro _ w1_5 ⟨rfl, h1_5⟩
  refine ⟨_, rfl, ?_⟩
  have L1_5 := L1_4.trans h1_5
  refine ⟨fun _ => h1_5, ?_⟩
  refine G.any rfl rfl (.assign rfl) rfl rfl rfl ?_
  refine G.nil ?_
  refine E.thenN ?_
  refine WC.ret ?_
  refine E.ret1 rfl rfl ?_
  exact ⟨rfl, h0_0.trans L1_5⟩

theorem rrho_ok (s : Stop) (hs : s.2.length = 32) (n : Nat) (hn : n ≤ 65536) (w : World) : Calls Try.prog 77 #[.agg (s.2.map u8v).toArray, .int .i64 (n : Int)] w fun e w' => ∃ A' c', e = .returned (.slice A' (n) c') ∧ Own w' w.heap.size 5 1 A' (n) c' ((rho s n).map u8v) ∧ Le w w' := by
  refine enter Try.func77 rfl rfl ?_
  have L0 := Le.refl w
  refine WC.seq ?_
  refine WC.region ?_
  refine W.ef rfl rfl rfl ?_
  refine Ef.boxA rfl ?_
  intro g0_0 w0_0 hg0_0 b0_0 h0_0
  have L0_0 := L0.trans h0_0
  have LL := Le.refl w0_0
  refine W.any (.assign rfl) rfl rfl rfl ?_
  refine W.nil ?_
  refine E.thenN ?_
  refine WC.seq ?_
  refine WC.region ?_
  refine W.any (.cutArr Try.underlying23 sz5 rfl) rfl rfl rfl ?_
  refine W.ef rfl rfl rfl ?_
  refine Ef.buildSlice1 Try.underlying135 el24 rfl rfl ?_
  intro g1_1 w1_1 hg1_1 b1_1 h1_1
  have L1_1 := LL.trans h1_1
  refine W.ef rfl rfl rfl ?_
  refine Ef.call go56 rfl rfl (rtag_ok _ nRho w1_1 (ps := [s.2]) rfl (b1_1.sl (s := 1) (n := 1) rfl) (.cons ((b0_0.le L1_1).sb hs) (.nil _)) (by rw [tagLen1, hs]; decide)) ?_
  rintro _ w1_2 ⟨rfl, h1_2⟩
  refine ⟨_, rfl, ?_⟩
  have L1_2 := L1_1.trans h1_2
  refine W.any (.move rfl) rfl rfl rfl ?_
  refine W.ef rfl rfl rfl ?_
  refine Ef.call go74 rfl rfl (rstream_ok _ (tag_length _ _) n hn w1_2) ?_
  rintro _ w1_4 ⟨A1, c1, rfl, o1, h1_4⟩
  refine ⟨_, rfl, ?_⟩
  have L1_4 := L1_2.trans h1_4
  refine W.any (.assign rfl) rfl rfl rfl ?_
  refine W.nil ?_
  refine E.thenN ?_
  refine WC.ret ?_
  refine E.ret1 rfl rfl ?_
  exact ⟨A1, c1, rfl, o1.mono (h0_0.trans L1_2).size, h0_0.trans L1_4⟩

theorem rmac_ok (s : Stop) (hs : s.2.length = 32) {A : Option Addr} {n c : Nat} {xs : List Byte} (w : World) (hS : Sb w A n xs) (hn : n ≤ 1000000) : Calls Try.prog 79 #[.agg (s.2.map u8v).toArray, .slice A n c] w fun e w' => e = .returned (.agg ((macB s xs).map u8v).toArray) ∧ Le w w' := by
  refine enter Try.func79 rfl rfl ?_
  have L0 := Le.refl w
  refine WC.seq ?_
  refine WC.region ?_
  refine W.ef rfl rfl rfl ?_
  refine Ef.boxA rfl ?_
  intro g0_0 w0_0 hg0_0 b0_0 h0_0
  have L0_0 := L0.trans h0_0
  have LL := Le.refl w0_0
  refine W.ef rfl rfl rfl ?_
  refine Ef.allocA z23 ?_
  intro g0_1 w0_1 hg0_1 b0_1 h0_1
  have L0_1 := LL.trans h0_1
  refine W.nil ?_
  refine E.thenN ?_
  refine WC.seq ?_
  refine WC.region ?_
  refine W.any (.cutArr Try.underlying23 sz5 rfl) rfl rfl rfl ?_
  refine W.any (.move rfl) rfl rfl rfl ?_
  refine W.ef rfl rfl rfl ?_
  refine Ef.buildSliceN [_, _] Try.underlying135 el24 rfl (one2 _ _ _ _ _ _) rfl (by decide) (by decide) ?_
  intro g1_2 w1_2 hg1_2 b1_2 h1_2
  have L1_2 := L0_1.trans h1_2
  refine W.ef rfl rfl rfl ?_
  refine Ef.call go56 rfl rfl (rtag_ok _ nMac w1_2 (ps := [s.2, xs]) rfl (b1_2.sl (s := 1) (n := 2) rfl) (.cons ((b0_0.le L1_2).sb hs) (.cons (hS.le (h0_0.trans L1_2)) (.nil _))) (by rw [tagLen2, hs, hS.len]; show 24 + 3 + 32 + n ≤ _; omega)) ?_
  rintro _ w1_3 ⟨rfl, h1_3⟩
  refine ⟨_, rfl, ?_⟩
  have L1_3 := L1_2.trans h1_3
  refine W.ef0 rfl rfl ?_
  refine Ef.storeAll sz23 (by simp [tag_length]) rfl rfl ((b0_1.le h1_2).le h1_3) (by simp [tag_length]) (all_u8v _) ?_
  intro w1_4 b1_4 h1_4
  have L1_4 : Le w0_0 w1_4 := L1_3.then_ h1_4 (fun q hq => by cases hq; exact hg0_1)
  refine W.nil ?_
  refine E.thenN ?_
  refine WC.ret ?_
  refine E.retC rfl rfl b1_4 ag23 (by simp [tag_length]) ?_
  exact ⟨rfl, h0_0.trans L1_4⟩

theorem changed_ok {A C : Option Addr} {n c d : Nat} {xs ys : List Byte} (w : World) (hX : Sb w A n xs) (hY : Sb w C n ys) (hn : n ≤ 1000000) : Calls Try.prog 76 #[.slice A n c, .slice C n d] w fun e w' => ∃ A' c', e = .returned (.slice A' (n) c') ∧ Own w' w.heap.size 5 1 A' (n) c' ((xorB xs ys).map u8v) ∧ Le w w' := by
  have hxl := hX.len
  have hyl := hY.len
  refine enter Try.func76 rfl rfl ?_
  have L0 := Le.refl w
  refine WC.seq ?_
  refine WC.region ?_
  refine W.any (.assign rfl) rfl rfl rfl ?_
  refine W.nil ?_
  refine E.thenN ?_
  refine WC.seq ?_
  refine WC.region ?_
  refine W.any (.assign rfl) rfl rfl rfl ?_
  refine W.nil ?_
  refine E.thenN ?_
  refine WC.seq ?_
  refine WC.seq ?_
  refine WC.region ?_
  refine W.any (.assign rfl) rfl rfl rfl ?_
  refine W.nil ?_
  refine E.thenN ?_
  refine WC.block ?_
  refine WC.loop (ι := Nat × Option Addr × Nat) (fun ⟨k, A1, c1⟩ => [(0, .slice A n c), (1, .slice C n d), (5, .slice A1 k c1), (6, .int .i64 (k : Int))]) (fun ⟨k, A1, c1⟩ wl => k ≤ n ∧ Le w wl ∧ Own wl w.heap.size 5 1 A1 k c1 (((xorB xs ys).take k).map u8v)) (fun ⟨k, A1, c1⟩ => n - k) (0, none, 0) ?_ ?_ ?_
  · exact .cons rfl (.cons rfl (.cons rfl (.cons rfl (.nil _))))
  · exact ⟨Nat.zero_le _, L0, Own.empty _ _ _ _ _⟩
  · rintro ⟨k, A1, c1⟩ wl ⟨hk, Ll, ol⟩
    refine WC.seq ?_
    refine WC.seq ?_
    refine WC.region ?_
    refine W.any (.move rfl) rfl rfl rfl ?_
    refine W.any (.move rfl) rfl rfl rfl ?_
    refine W.rd (.len Try.underlying24 rfl) rfl rfl rfl ?_
    refine W.any (.lss rfl rfl) rfl rfl rfl ?_
    refine W.nil ?_
    refine E.thenN ?_
    refine WC.cond rfl (fun c0 => ?_) (fun c0 => ?_)
    · refine WC.skip ?_
      refine E.thenN ?_
      refine WC.seq ?_
      refine WC.block ?_
      refine WC.draw [0, 1, 2, 3, 4, 5, 6, 7, 8, 9, 10, 11, 12] mixed (by kernel_rfl) ?_
      intro w5 d5
      have L5 := Ll.trans d5
      refine G.any rfl rfl (.move rfl) rfl rfl rfl ?_
      refine G.any rfl rfl (.move rfl) rfl rfl rfl ?_
      refine G.any rfl rfl (.move rfl) rfl rfl rfl ?_
      refine G.any rfl rfl (.idxS1 (k) Try.underlying24 sz5 rfl rfl (hX.isSome (by omega)) (rfl) (by omega)) rfl rfl rfl ?_
      refine G.rd rfl rfl (.loadS na5 rfl (hX.le L5) (getb xs (by omega))) rfl rfl rfl ?_
      refine G.any rfl rfl (.move rfl) rfl rfl rfl ?_
      refine G.any rfl rfl (.move rfl) rfl rfl rfl ?_
      refine G.any rfl rfl (.idxS1 (k) Try.underlying24 sz5 rfl rfl (hY.isSome (by omega)) (rfl) (by omega)) rfl rfl rfl ?_
      refine G.rd rfl rfl (.loadS na5 rfl (hY.le L5) (getb ys (by omega))) rfl rfl rfl ?_
      refine G.any rfl rfl (.xor8 rfl rfl) rfl rfl rfl ?_
      refine G.ef rfl rfl rfl rfl rfl ?_
      refine Ef.buildSlice1 Try.underlying24 el5 rfl rfl ?_
      intro g5_10 w5_10 hg5_10 b5_10 h5_10
      have L5_10 := L5.trans h5_10
      refine ⟨fun _ => h5_10, ?_⟩
      refine G.ef rfl rfl rfl rfl rfl ?_
      refine Ef.append Try.underlying24 el5 rfl ((ol.le d5).le h5_10) rfl (b5_10.src1 Try.underlying24 rfl) (by omega) (by unfold maxLen; omega) (L5_10.size) ?_
      intro A5_11 c5_11 w5_11 o5_11 h5_11 at5_11
      have L5_11 : Le w w5_11 := L5_10.then_ h5_11 (fun q hq => (ol.row hq).1)
      refine ⟨fun h => absurd h (ne_true_of_eq_false (by kernel_rfl)), ?_⟩
      refine G.any rfl rfl (.assign rfl) rfl rfl rfl ?_
      refine G.nil ?_
      refine E.blkN ?_
      refine E.thenN ?_
      refine WC.region ?_
      refine W.any (.move rfl) rfl rfl rfl ?_
      refine W.any (.add rfl rfl (by omega)) rfl rfl rfl ?_
      refine W.any (.assign rfl) rfl rfl rfl ?_
      refine W.nil ?_
      refine E.again (k + 1, A5_11, c5_11) (.cons rfl (.cons rfl (.cons rfl (.cons rfl (.nil _))))) ?_ ?_
      · exact ⟨by omega, L5_11, o5_11.cast rfl (by rw [← xorB_snoc xs ys k (by omega) (by omega), List.map_append]; rfl)⟩
      · first | omega | (simp only []; omega)
    · have hkn : k = n := by omega
      subst hkn
      refine WC.exit ?_
      refine E.thenX ?_
      refine E.thenX ?_
      refine E.blkH ?_
      refine E.thenN ?_
      refine WC.seq ?_
      refine WC.region ?_
      refine W.any (.move rfl) rfl rfl rfl ?_
      refine W.any (.assign rfl) rfl rfl rfl ?_
      refine W.nil ?_
      refine E.thenN ?_
      refine WC.ret ?_
      refine E.ret1 rfl rfl ?_
      exact ⟨_, _, rfl, ol.cast rfl (by rw [List.take_of_length_le (by simp [xorB]; omega)]), Ll⟩
end Go.Proofs.Ytpmjdiccekkadaa
