/- The document's coins (layer 1), policies and fees (33), edges and ways (36), and how rows are compared, walked. -/
import Derived.Test.YtfgakofjkldcjaaHops
import Derived.Test.YtfgakofjkldcjaaEqh
namespace Go.Proofs.Ytfgakofjkldcjaa
open Go Go.Sx Go.Hsp Go.Num Go.Osp Go.Gsp
set_option maxRecDepth 20000
set_option linter.unusedSimpArgs false
set_option linter.unusedVariables false
theorem eqv_pol {d : Nat} (a b : Pol) : Eqv Try.prog (d + 2) 74 (.agg (polV a).toArray) (.agg (polV b).toArray) (decide (a = b)) := by
  have h := Eqv.ints (P := Try.prog) (d := d) (t := 74) (polV a) (polV b) [(.i64, 0), (.i64, 1), (.i64, 2), (.i64, 3), (.i64, 4)] (by kernel_rfl) (by kernel_rfl) (by
    rw [show (Try.prog.fieldsOf 74) = _ from (by unfold Program.fieldsOf; rw [Try.underlying74])]
    exact ⟨by decide, rfl, Try.underlying3, ⟨_, _, rfl, rfl⟩, by decide, rfl, Try.underlying3, ⟨_, _, rfl, rfl⟩, by decide, rfl, Try.underlying3, ⟨_, _, rfl, rfl⟩, by decide, rfl, Try.underlying3, ⟨_, _, rfl, rfl⟩, by decide, rfl, Try.underlying3, ⟨_, _, rfl, rfl⟩, trivial⟩)
  have e : eqAll (polV a) (polV b) [(.i64, 0), (.i64, 1), (.i64, 2), (.i64, 3), (.i64, 4)] = decide (a = b) := by
    obtain ⟨a1, a2, a3, a4, a5⟩ := a
    obtain ⟨b1, b2, b3, b4, b5⟩ := b
    simp only [eqAll, polV, List.getElem?_cons_zero, List.getElem?_cons_succ, Pol.mk.injEq]
    rw [Bool.eq_iff_iff]
    simp only [Bool.and_eq_true, decide_eq_true_eq, Bool.and_true]
  rw [e] at h
  exact h
theorem eqv_edge {d : Nat} (a b : Gsp.Edge) : Eqv Try.prog (d + 3) 76 (.agg (edgeV a).toArray) (.agg (edgeV b).toArray) (decide (a = b)) := by
  have h := Eqv.struct (P := Try.prog) (d := d + 2) (t := 76) (edgeV a).toArray (edgeV b).toArray [(0, .int .i64 a.f, .int .i64 b.f, decide (a.f = b.f)), (1, .int .i64 a.t, .int .i64 b.t, decide (a.t = b.t)), (2, .int .i64 a.c, .int .i64 b.c, decide (a.c = b.c)), (3, .int .i64 a.r, .int .i64 b.r, decide (a.r = b.r)), (4, .agg (polV a.pol).toArray, .agg (polV b.pol).toArray, decide (a.pol = b.pol))] (by kernel_rfl) (by kernel_rfl) (by
    rw [show (Try.prog.fieldsOf 76) = _ from (by unfold Program.fieldsOf; rw [Try.underlying76])]
    exact ⟨by decide, rfl, run_part1 na3 rfl, run_part1 na3 rfl, Eqv.int _ _ Try.underlying3, by decide, rfl, run_part1 na3 rfl, run_part1 na3 rfl, Eqv.int _ _ Try.underlying3, by decide, rfl, run_part1 na3 rfl, run_part1 na3 rfl, Eqv.int _ _ Try.underlying3, by decide, rfl, run_part1 na3 rfl, run_part1 na3 rfl, Eqv.int _ _ Try.underlying3, by decide, rfl, run_partA (polV a.pol) ag74 rfl rfl, run_partA (polV b.pol) ag74 rfl rfl, eqv_pol _ _, trivial⟩)
  have e : (decide (a.f = b.f) && (decide (a.t = b.t) && (decide (a.c = b.c) && (decide (a.r = b.r) && (decide (a.pol = b.pol) && true))))) = decide (a = b) := by
    obtain ⟨a1, a2, a3, a4, a5⟩ := a
    obtain ⟨b1, b2, b3, b4, b5⟩ := b
    rw [Bool.eq_iff_iff]
    simp [Gsp.Edge.mk.injEq]
  have h' : Eqv Try.prog (d + 3) 76 (.agg (edgeV a).toArray) (.agg (edgeV b).toArray) (decide (a.f = b.f) && (decide (a.t = b.t) && (decide (a.c = b.c) && (decide (a.r = b.r) && (decide (a.pol = b.pol) && true))))) := h
  rw [e] at h'
  exact h'

theorem mul_step (an nn k : Nat) : an / 2 ^ k * nn = 2 * (an / 2 ^ (k + 1) * nn) + an / 2 ^ k % 2 * nn := by
  have h : an / 2 ^ k = 2 * (an / 2 ^ (k + 1)) + an / 2 ^ k % 2 := by rw [Nat.pow_succ, ← Nat.div_div_eq_div_mul]; omega
  calc an / 2 ^ k * nn = (2 * (an / 2 ^ (k + 1)) + an / 2 ^ k % 2) * nn := by rw [← h]
    _ = _ := by rw [Nat.add_mul, Nat.mul_assoc]
theorem part_stepd (d q r n X : Nat) (h : q * d + r = X) : (2 * q + 2 * r / d + n / d + (2 * r % d + n % d) / d) * d + (2 * r % d + n % d) % d = 2 * X + n := by
  have e1 := Nat.div_add_mod (2 * r) d
  have e2 := Nat.div_add_mod n d
  have e3 := Nat.div_add_mod (2 * r % d + n % d) d
  rw [Nat.add_mul, Nat.add_mul, Nat.add_mul, Nat.mul_comm (2 * r / d), Nat.mul_comm (n / d), Nat.mul_comm ((2 * r % d + n % d) / d), Nat.mul_assoc]
  omega
theorem part_step1 (q r n X : Nat) (h : q * 1000000 + r = X) : (2 * q + 2 * r / 1000000 + n / 1000000 + (2 * r % 1000000 + n % 1000000) / 1000000) * 1000000 + (2 * r % 1000000 + n % 1000000) % 1000000 = 2 * X + n := part_stepd 1000000 q r n X h
theorem part_step0 (q r X : Nat) (h : q * 1000000 + r = X) : (2 * q + 2 * r / 1000000 + 2 * r % 1000000 / 1000000) * 1000000 + 2 * r % 1000000 % 1000000 = 2 * X := by
  have := part_stepd 1000000 q r 0 X h
  rw [Nat.zero_div, Nat.zero_mod, Nat.add_zero, Nat.add_zero, Nat.add_zero] at this
  exact this
theorem mul_mono (an nn k : Nat) : an / 2 ^ k * nn ≤ an * nn := Nat.mul_le_mul_right _ (Nat.div_le_self _ _)
theorem r33in_ok (n lo hi : Int) (w : World) : Calls Try.prog 156 #[.int .i64 (n), .int .i64 (lo), .int .i64 (hi)] w fun r w' => r = .returned (.bool (inB n lo hi)) ∧ Le w w' := by
  refine enter Try.func156 rfl rfl ?_
  have L0 := Le.refl w
  refine WC.seq ?_
  refine WC.region ?_
  refine W.any (.assign rfl) rfl rfl rfl ?_
  refine W.nil ?_
  refine E.thenN ?_
  refine WC.seq ?_
  refine WC.region ?_
  refine W.any (.move rfl) rfl rfl rfl ?_
  refine W.any (.move rfl) rfl rfl rfl ?_
  refine W.any (.geq rfl rfl) rfl rfl rfl ?_
  by_cases q1_3 : lo ≤ n
  · refine W.any (.dec (.move rfl) (decide_eq_true q1_3)) rfl rfl rfl ?_
    refine W.rdg (Any.rd (.move rfl) _) rfl rfl rfl (rfl) rfl rfl ?_
    refine W.rdg (Any.rd (.move rfl) _) rfl rfl rfl (rfl) rfl rfl ?_
    refine W.rdg (Any.rd (.leq rfl rfl) _) rfl rfl rfl (rfl) rfl rfl ?_
    refine W.any (.pickT rfl rfl rfl) rfl rfl rfl ?_
    refine W.any (.assign rfl) rfl rfl rfl ?_
    refine W.nil ?_
    refine E.thenN ?_
    refine WC.ret ?_
    refine E.retG1 rfl rfl ?_
    exact ⟨congrArg (fun b => Ending.returned (Value.bool b)) (by simp [inB, q1_3]), L0⟩
  · refine W.any (.dec (.move rfl) (decide_eq_false q1_3)) rfl rfl rfl ?_
    refine W.skip rfl rfl rfl (rfl) rfl rfl ?_
    refine W.skip rfl rfl rfl (rfl) rfl rfl ?_
    refine W.skip rfl rfl rfl (rfl) rfl rfl ?_
    refine W.any (.pickF rfl rfl rfl) rfl rfl rfl ?_
    refine W.any (.assign rfl) rfl rfl rfl ?_
    refine W.nil ?_
    refine E.thenN ?_
    refine WC.ret ?_
    refine E.retG1 rfl rfl ?_
    exact ⟨congrArg (fun b => Ending.returned (Value.bool b)) (by simp [inB, q1_3]), L0⟩

theorem r36in_ok (n lo hi : Int) (w : World) : Calls Try.prog 77 #[.int .i64 (n), .int .i64 (lo), .int .i64 (hi)] w fun r w' => r = .returned (.bool (inB n lo hi)) ∧ Le w w' := by
  refine enter Try.func77 rfl rfl ?_
  have L0 := Le.refl w
  refine WC.seq ?_
  refine WC.region ?_
  refine W.any (.assign rfl) rfl rfl rfl ?_
  refine W.nil ?_
  refine E.thenN ?_
  refine WC.seq ?_
  refine WC.region ?_
  refine W.any (.move rfl) rfl rfl rfl ?_
  refine W.any (.move rfl) rfl rfl rfl ?_
  refine W.any (.geq rfl rfl) rfl rfl rfl ?_
  by_cases q1_3 : lo ≤ n
  · refine W.any (.dec (.move rfl) (decide_eq_true q1_3)) rfl rfl rfl ?_
    refine W.rdg (Any.rd (.move rfl) _) rfl rfl rfl (rfl) rfl rfl ?_
    refine W.rdg (Any.rd (.move rfl) _) rfl rfl rfl (rfl) rfl rfl ?_
    refine W.rdg (Any.rd (.leq rfl rfl) _) rfl rfl rfl (rfl) rfl rfl ?_
    refine W.any (.pickT rfl rfl rfl) rfl rfl rfl ?_
    refine W.any (.assign rfl) rfl rfl rfl ?_
    refine W.nil ?_
    refine E.thenN ?_
    refine WC.ret ?_
    refine E.retG1 rfl rfl ?_
    exact ⟨congrArg (fun b => Ending.returned (Value.bool b)) (by simp [inB, q1_3]), L0⟩
  · refine W.any (.dec (.move rfl) (decide_eq_false q1_3)) rfl rfl rfl ?_
    refine W.skip rfl rfl rfl (rfl) rfl rfl ?_
    refine W.skip rfl rfl rfl (rfl) rfl rfl ?_
    refine W.skip rfl rfl rfl (rfl) rfl rfl ?_
    refine W.any (.pickF rfl rfl rfl) rfl rfl rfl ?_
    refine W.any (.assign rfl) rfl rfl rfl ?_
    refine W.nil ?_
    refine E.thenN ?_
    refine WC.ret ?_
    refine E.retG1 rfl rfl ?_
    exact ⟨congrArg (fun b => Ending.returned (Value.bool b)) (by simp [inB, q1_3]), L0⟩

theorem rcoins_ok (a : Int) (w : World) : Calls Try.prog 133 #[.int .i64 (a)] w fun r w' => r = .returned (.bool (coinB a)) ∧ Le w w' := by
  refine enter Try.func133 rfl rfl ?_
  have L0 := Le.refl w
  refine WC.seq ?_
  refine WC.region ?_
  refine W.any (.assign rfl) rfl rfl rfl ?_
  refine W.nil ?_
  refine E.thenN ?_
  refine WC.seq ?_
  refine WC.region ?_
  refine W.any (.move rfl) rfl rfl rfl ?_
  refine W.any (.geq rfl rfl) rfl rfl rfl ?_
  by_cases q1_2 : 0 ≤ a
  · refine W.any (.dec (.move rfl) (decide_eq_true q1_2)) rfl rfl rfl ?_
    refine W.rdg (Any.rd (.move rfl) _) rfl rfl rfl (rfl) rfl rfl ?_
    refine W.rdg (Any.rd (.leq rfl rfl) _) rfl rfl rfl (rfl) rfl rfl ?_
    refine W.any (.pickT rfl rfl rfl) rfl rfl rfl ?_
    refine W.any (.assign rfl) rfl rfl rfl ?_
    refine W.nil ?_
    refine E.thenN ?_
    refine WC.ret ?_
    refine E.retG1 rfl rfl ?_
    exact ⟨congrArg (fun b => Ending.returned (Value.bool b)) (by simp [coinB, inB, q1_2]), L0⟩
  · refine W.any (.dec (.move rfl) (decide_eq_false q1_2)) rfl rfl rfl ?_
    refine W.skip rfl rfl rfl (rfl) rfl rfl ?_
    refine W.skip rfl rfl rfl (rfl) rfl rfl ?_
    refine W.any (.pickF rfl rfl rfl) rfl rfl rfl ?_
    refine W.any (.assign rfl) rfl rfl rfl ?_
    refine W.nil ?_
    refine E.thenN ?_
    refine WC.ret ?_
    refine E.retG1 rfl rfl ?_
    exact ⟨congrArg (fun b => Ending.returned (Value.bool b)) (by simp [coinB, inB, q1_2]), L0⟩

theorem radd_ok (a b : Int) (w : World) : Calls Try.prog 79 #[.int .i64 (a), .int .i64 (b)] w fun r w' => r = .returned (.tuple #[.int .i64 (addC a b).1, .bool (addC a b).2]) ∧ Le w w' := by
  refine enter Try.func79 rfl rfl ?_
  have L0 := Le.refl w
  refine WC.seq ?_
  refine WC.region ?_
  refine W.any (.assign rfl) rfl rfl rfl ?_
  refine W.any (.assign rfl) rfl rfl rfl ?_
  refine W.nil ?_
  refine E.thenN ?_
  refine WC.seq ?_
  refine WC.seq ?_
  refine WC.region ?_
  refine W.any (.move rfl) rfl rfl rfl ?_
  refine W.ef rfl rfl rfl ?_
  refine Ef.call go133 rfl rfl (rcoins_ok a w) ?_
  rintro _ w1_1 ⟨rfl, h1_1⟩
  refine ⟨_, rfl, ?_⟩
  have L1 := L0.trans h1_1
  refine W.any (.not rfl) rfl rfl rfl ?_
  by_cases q1_3 : coinB a = true
  · refine W.any (.dec (.move rfl) (congrArg not (q1_3))) rfl rfl rfl ?_
    refine W.rdg (Any.rd (.move rfl) _) rfl rfl rfl (rfl) rfl rfl ?_
    refine W.efg rfl rfl rfl (rfl) rfl rfl ?_
    refine Ef.call go133 rfl rfl (rcoins_ok b w1_1) ?_
    rintro _ w1_5 ⟨rfl, h1_5⟩
    refine ⟨_, rfl, ?_⟩
    have L2 := L1.trans h1_5
    refine W.rdg (Any.rd (.not rfl) _) rfl rfl rfl (rfl) rfl rfl ?_
    refine W.any (.pickF rfl rfl rfl) rfl rfl rfl ?_
    by_cases q1_8 : coinB b = true
    · refine W.any (.dec (.move rfl) (congrArg not (q1_8))) rfl rfl rfl ?_
      refine W.rdg (Any.rd (.move rfl) _) rfl rfl rfl (rfl) rfl rfl ?_
      refine W.rdg (Any.rd (.move rfl) _) rfl rfl rfl (rfl) rfl rfl ?_
      have hb1 := inB_T (show inB b 0 1125899906842624 = true by assumption)
      have ha1 := inB_T (show inB a 0 1125899906842624 = true by assumption)
      refine W.rdg (Any.rd (.add rfl rfl (by omega)) _) rfl rfl rfl (rfl) rfl rfl ?_
      refine W.efg rfl rfl rfl (rfl) rfl rfl ?_
      refine Ef.call go133 rfl rfl (rcoins_ok (a + b) w1_5) ?_
      rintro _ w1_12 ⟨rfl, h1_12⟩
      refine ⟨_, rfl, ?_⟩
      have L3 := L2.trans h1_12
      refine W.rdg (Any.rd (.not rfl) _) rfl rfl rfl (rfl) rfl rfl ?_
      refine W.any (.pickF rfl rfl rfl) rfl rfl rfl ?_
      refine W.nil ?_
      refine E.thenN ?_
      by_cases c0 : coinB (a + b) = true
      · refine WC.condN rfl (congrArg not (c0)) ?_
        refine WC.skip ?_
        refine E.thenN ?_
        refine WC.seq ?_
        refine WC.region ?_
        refine W.any (.move rfl) rfl rfl rfl ?_
        refine W.any (.move rfl) rfl rfl rfl ?_
        refine W.any (.add rfl rfl (by omega)) rfl rfl rfl ?_
        refine W.any (.assign rfl) rfl rfl rfl ?_
        refine W.any (.assign rfl) rfl rfl rfl ?_
        refine W.nil ?_
        refine E.thenN ?_
        refine WC.ret ?_
        refine E.retG2 rfl rfl rfl ?_
        exact ⟨by unfold addC; first | (simp [q1_3, q1_8, c0]; done) | (have hq := inB_T (show inB (a + b) 0 1125899906842624 = true by assumption); rw [if_pos (by simp [q1_3, q1_8, c0]; omega)]) | (have hq := inB_F (show inB (a + b) 0 1125899906842624 = false from Bool.eq_false_iff.2 (by assumption)); rw [if_neg (by simp [q1_3, q1_8, c0]; omega)]), L3⟩
      · refine WC.condY rfl (congrArg not ((Bool.eq_false_iff.2 c0))) ?_
        refine WC.seq ?_
        refine WC.region ?_
        refine W.any (.assign rfl) rfl rfl rfl ?_
        refine W.any (.assign rfl) rfl rfl rfl ?_
        refine W.nil ?_
        refine E.thenN ?_
        refine WC.ret ?_
        refine E.thenR ?_
        refine E.retG2 rfl rfl rfl ?_
        exact ⟨by unfold addC; first | (simp [q1_3, q1_8, c0]; done) | (have hq := inB_T (show inB (a + b) 0 1125899906842624 = true by assumption); rw [if_pos (by simp [q1_3, q1_8, c0]; omega)]) | (have hq := inB_F (show inB (a + b) 0 1125899906842624 = false from Bool.eq_false_iff.2 (by assumption)); rw [if_neg (by simp [q1_3, q1_8, c0]; omega)]), L3⟩
    · refine W.any (.dec (.move rfl) (congrArg not ((Bool.eq_false_iff.2 q1_8)))) rfl rfl rfl ?_
      refine W.skip rfl rfl rfl (rfl) rfl rfl ?_
      refine W.skip rfl rfl rfl (rfl) rfl rfl ?_
      refine W.skip rfl rfl rfl (rfl) rfl rfl ?_
      refine W.skip rfl rfl rfl (rfl) rfl rfl ?_
      refine W.skip rfl rfl rfl (rfl) rfl rfl ?_
      refine W.any (.pickT rfl rfl rfl) rfl rfl rfl ?_
      refine W.nil ?_
      refine E.thenN ?_
      refine WC.condT rfl ?_
      refine WC.seq ?_
      refine WC.region ?_
      refine W.any (.assign rfl) rfl rfl rfl ?_
      refine W.any (.assign rfl) rfl rfl rfl ?_
      refine W.nil ?_
      refine E.thenN ?_
      refine WC.ret ?_
      refine E.thenR ?_
      refine E.retG2 rfl rfl rfl ?_
      exact ⟨by unfold addC; first | (simp [q1_3, q1_8]; done) | (have hq := inB_T (show inB (a + b) 0 1125899906842624 = true by assumption); rw [if_pos (by simp [q1_3, q1_8]; omega)]) | (have hq := inB_F (show inB (a + b) 0 1125899906842624 = false from Bool.eq_false_iff.2 (by assumption)); rw [if_neg (by simp [q1_3, q1_8]; omega)]), L2⟩
  · refine W.any (.dec (.move rfl) (congrArg not ((Bool.eq_false_iff.2 q1_3)))) rfl rfl rfl ?_
    refine W.skip rfl rfl rfl (rfl) rfl rfl ?_
    refine W.skip rfl rfl rfl (rfl) rfl rfl ?_
    refine W.skip rfl rfl rfl (rfl) rfl rfl ?_
    refine W.any (.pickT rfl rfl rfl) rfl rfl rfl ?_
    refine W.any (.move rfl) rfl rfl rfl ?_
    refine W.skip rfl rfl rfl (rfl) rfl rfl ?_
    refine W.skip rfl rfl rfl (rfl) rfl rfl ?_
    refine W.skip rfl rfl rfl (rfl) rfl rfl ?_
    refine W.skip rfl rfl rfl (rfl) rfl rfl ?_
    refine W.skip rfl rfl rfl (rfl) rfl rfl ?_
    refine W.any (.pickT rfl rfl rfl) rfl rfl rfl ?_
    refine W.nil ?_
    refine E.thenN ?_
    refine WC.condT rfl ?_
    refine WC.seq ?_
    refine WC.region ?_
    refine W.any (.assign rfl) rfl rfl rfl ?_
    refine W.any (.assign rfl) rfl rfl rfl ?_
    refine W.nil ?_
    refine E.thenN ?_
    refine WC.ret ?_
    refine E.thenR ?_
    refine E.retG2 rfl rfl rfl ?_
    exact ⟨by unfold addC; first | (simp [q1_3]; done) | (have hq := inB_T (show inB (a + b) 0 1125899906842624 = true by assumption); rw [if_pos (by simp [q1_3]; omega)]) | (have hq := inB_F (show inB (a + b) 0 1125899906842624 = false from Bool.eq_false_iff.2 (by assumption)); rw [if_neg (by simp [q1_3]; omega)]), L1⟩

theorem rparts_ok (a num : Int) (hn : num ≤ 9223372036854775807) (w : World) : Calls Try.prog 155 #[.int .i64 (a), .int .i64 (num), .int .i64 (1000000)] w fun r w' => ∃ z : Int, r = .returned (.tuple #[.int .i64 (partC a num).1, .int .i64 z, .bool (partC a num).2]) ∧ Le w w' := by
  refine enter Try.func155 rfl rfl ?_
  have L0 := Le.refl w
  refine WC.seq ?_
  refine WC.region ?_
  refine W.any (.assign rfl) rfl rfl rfl ?_
  refine W.any (.assign rfl) rfl rfl rfl ?_
  refine W.any (.assign rfl) rfl rfl rfl ?_
  refine W.nil ?_
  refine E.thenN ?_
  refine WC.seq ?_
  refine WC.seq ?_
  refine WC.region ?_
  refine W.any (.move rfl) rfl rfl rfl ?_
  refine W.ef rfl rfl rfl ?_
  refine Ef.call go133 rfl rfl (rcoins_ok a w) ?_
  rintro _ w1_1 ⟨rfl, h1_1⟩
  refine ⟨_, rfl, ?_⟩
  have L1 := L0.trans h1_1
  refine W.any (.not rfl) rfl rfl rfl ?_
  by_cases q1_3 : coinB a = true
  · refine W.any (.dec (.move rfl) (congrArg not (q1_3))) rfl rfl rfl ?_
    refine W.rdg (Any.rd (.move rfl) _) rfl rfl rfl (rfl) rfl rfl ?_
    refine W.rdg (Any.rd (.lss rfl rfl) _) rfl rfl rfl (rfl) rfl rfl ?_
    refine W.any (.pickF rfl rfl rfl) rfl rfl rfl ?_
    by_cases q1_7 : num < 0
    · refine W.any (.dec (.move rfl) (decide_eq_true q1_7)) rfl rfl rfl ?_
      refine W.skip rfl rfl rfl (rfl) rfl rfl ?_
      refine W.skip rfl rfl rfl (rfl) rfl rfl ?_
      refine W.any (.pickT rfl rfl rfl) rfl rfl rfl ?_
      refine W.nil ?_
      refine E.thenN ?_
      refine WC.condT rfl ?_
      refine WC.seq ?_
      refine WC.region ?_
      refine W.any (.assign rfl) rfl rfl rfl ?_
      refine W.any (.assign rfl) rfl rfl rfl ?_
      refine W.any (.assign rfl) rfl rfl rfl ?_
      refine W.nil ?_
      refine E.thenN ?_
      refine WC.ret ?_
      refine E.thenR ?_
      refine E.retG3 rfl rfl rfl rfl ?_
      exact ⟨0, (by first | rfl | (simp [partC, q1_3, q1_7]; done) | (simp [partC, q1_3, q1_7]; omega) | (simp [partC, q1_3, q1_7]; split <;> first | (exfalso; omega) | (simp; done) | (simp; omega))), L1⟩
    · refine W.any (.dec (.move rfl) (decide_eq_false q1_7)) rfl rfl rfl ?_
      refine W.rdg (Any.rd (.move rfl) _) rfl rfl rfl (rfl) rfl rfl ?_
      refine W.rdg (Any.rd (.dec (.lss rfl rfl) (show _ = false from by decide)) _) rfl rfl rfl (rfl) rfl rfl ?_
      refine W.any (.pickF rfl rfl rfl) rfl rfl rfl ?_
      refine W.nil ?_
      refine E.thenN ?_
      refine WC.condF rfl ?_
      refine WC.skip ?_
      refine E.thenN ?_
      refine WC.seq ?_
      refine WC.region ?_
      refine W.any (.assign rfl) rfl rfl rfl ?_
      refine W.nil ?_
      refine E.thenN ?_
      refine WC.seq ?_
      refine WC.region ?_
      refine W.any (.assign rfl) rfl rfl rfl ?_
      refine W.nil ?_
      refine E.thenN ?_
      refine WC.seq ?_
      refine WC.region ?_
      refine W.any (.move rfl) rfl rfl rfl ?_
      have ha := inB_T (show inB a 0 1125899906842624 = true by assumption)
      obtain ⟨an, rfl⟩ := Int.eq_ofNat_of_zero_le ha.1
      obtain ⟨nn, rfl⟩ := Int.eq_ofNat_of_zero_le (show 0 ≤ num by omega)
      refine W.rd (.idI (isS Try.underlying3) Try.underlying29 rfl (IntWalk.u64_in _ (by omega))) rfl rfl rfl ?_
      refine W.any (.assign rfl) rfl rfl rfl ?_
      refine W.nil ?_
      refine E.thenN ?_
      refine WC.seq ?_
      refine WC.region ?_
      refine W.any (.move rfl) rfl rfl rfl ?_
      refine W.rd (.idI (isS Try.underlying3) Try.underlying29 rfl (IntWalk.u64_in _ (by omega))) rfl rfl rfl ?_
      refine W.any (.assign rfl) rfl rfl rfl ?_
      refine W.nil ?_
      refine E.thenN ?_
      refine WC.seq ?_
      refine WC.seq ?_
      refine WC.region ?_
      refine W.any (.assign rfl) rfl rfl rfl ?_
      refine W.nil ?_
      refine E.thenN ?_
      refine WC.block ?_
      refine WC.loop (ι := Nat × Nat × Nat) (fun ⟨kk, q, r⟩ => [(0, .int .i64 (((an : Nat) : Int))), (9, .int .u64 (((q : Nat) : Int))), (10, .int .u64 (((r : Nat) : Int))), (11, .int .u64 (1000000)), (12, .int .u64 (((nn : Nat) : Int))), (13, .int .i64 (((kk : Nat) : Int) - 1))]) (fun ⟨kk, q, r⟩ wl0 => (kk ≤ 51) ∧ (q * 1000000 + r = an / 2 ^ kk * nn) ∧ (r < 1000000) ∧ (q ≤ 1125899906842624) ∧ Le w wl0 ∧ w1_1.heap.size ≤ wl0.heap.size) (fun ⟨kk, q, r⟩ => kk) (51, 0, 0) ?_ ?_ ?_
      · exact .cons rfl (.cons rfl (.cons rfl (.cons rfl (.cons rfl (.cons rfl (.nil _))))))
      · exact ⟨Nat.le_refl _, by rw [Nat.div_eq_of_lt (by omega)]; simp, by decide, by decide, L1, Nat.le_refl _⟩
      · rintro ⟨kk, q, r⟩ wl0 ⟨hkk, hX, hr, hq, Ll0, sz0⟩
        refine WC.seq ?_
        refine WC.seq ?_
        refine WC.region ?_
        refine W.any (.move rfl) rfl rfl rfl ?_
        refine W.any (.geq rfl rfl) rfl rfl rfl ?_
        refine W.nil ?_
        refine E.thenN ?_
        by_cases c1 : 0 ≤ (((kk : Nat) : Int) - 1)
        · refine WC.condY rfl (decide_eq_true c1) ?_
          have hst := mul_step an nn (kk - 1)
          rw [show kk - 1 + 1 = kk by omega] at hst
          have hbit : an / 2 ^ (kk - 1) % 2 < 2 := Nat.mod_lt _ (by decide)
          have h2 : an / 2 ^ (kk - 1) ≤ an := Nat.div_le_self _ _
          refine WC.skip ?_
          refine E.thenN ?_
          refine WC.seq ?_
          refine WC.block ?_
          refine WC.seq ?_
          refine WC.region ?_
          refine W.any (.move rfl) rfl rfl rfl ?_
          refine W.any (.mulN 2 q (2 * q) rfl rfl rfl rfl (by omega)) rfl rfl rfl ?_
          refine W.any (.assign rfl) rfl rfl rfl ?_
          refine W.nil ?_
          refine E.thenN ?_
          refine WC.seq ?_
          refine WC.region ?_
          refine W.any (.move rfl) rfl rfl rfl ?_
          refine W.any (.mulN 2 r (2 * r) rfl rfl rfl rfl (by omega)) rfl rfl rfl ?_
          refine W.any (.assign rfl) rfl rfl rfl ?_
          refine W.nil ?_
          refine E.thenN ?_
          refine WC.seq ?_
          refine WC.region ?_
          refine W.any (.move rfl) rfl rfl rfl ?_
          refine W.any (.move rfl) rfl rfl rfl ?_
          refine W.any (.move rfl) rfl rfl rfl ?_
          refine W.any (.quoN (2 * r) 1000000 ((2 * r) / 1000000) rfl rfl rfl rfl (by omega) (by omega) (rfl)) rfl rfl rfl ?_
          refine W.any (.addN (2 * q) ((2 * r) / 1000000) ((2 * q) + ((2 * r) / 1000000)) rfl rfl rfl rfl (by omega)) rfl rfl rfl ?_
          refine W.any (.assign rfl) rfl rfl rfl ?_
          refine W.nil ?_
          refine E.thenN ?_
          refine WC.seq ?_
          refine WC.region ?_
          refine W.any (.move rfl) rfl rfl rfl ?_
          refine W.any (.move rfl) rfl rfl rfl ?_
          refine W.any (.remN (2 * r) 1000000 ((2 * r) % 1000000) rfl rfl rfl rfl (by omega) (rfl)) rfl rfl rfl ?_
          refine W.any (.assign rfl) rfl rfl rfl ?_
          refine W.nil ?_
          refine E.thenN ?_
          refine WC.seq ?_
          refine WC.seq ?_
          refine WC.region ?_
          refine W.any (.move rfl) rfl rfl rfl ?_
          refine W.any (.move rfl) rfl rfl rfl ?_
          refine W.any (.shrE an (kk - 1) (an / 2 ^ (kk - 1)) rfl rfl rfl (by omega) (by show kk - 1 ≤ 64; omega) (rfl)) rfl rfl rfl ?_
          refine W.any (.andI (an / 2 ^ (kk - 1)) 1 (an / 2 ^ (kk - 1) % 2) rfl rfl rfl rfl (by omega) (by omega) (mask1 _)) rfl rfl rfl ?_
          refine W.any (.eql rfl rfl) rfl rfl rfl ?_
          refine W.nil ?_
          refine E.thenN ?_
          by_cases c2 : ((an / 2 ^ (kk - 1) % 2 : Nat) : Int) = 1
          · refine WC.condY rfl (decide_eq_true c2) ?_
            have hb1 : an / 2 ^ (kk - 1) % 2 = 1 := by omega
            rw [hb1, Nat.one_mul] at hst
            refine WC.seq ?_
            refine WC.region ?_
            refine W.any (.move rfl) rfl rfl rfl ?_
            refine W.any (.move rfl) rfl rfl rfl ?_
            refine W.any (.move rfl) rfl rfl rfl ?_
            refine W.any (.quoN nn 1000000 (nn / 1000000) rfl rfl rfl rfl (by omega) (by omega) (rfl)) rfl rfl rfl ?_
            refine W.any (.addN ((2 * q) + ((2 * r) / 1000000)) (nn / 1000000) (((2 * q) + ((2 * r) / 1000000)) + (nn / 1000000)) rfl rfl rfl rfl (by omega)) rfl rfl rfl ?_
            refine W.any (.assign rfl) rfl rfl rfl ?_
            refine W.nil ?_
            refine E.thenN ?_
            refine WC.region ?_
            refine W.any (.move rfl) rfl rfl rfl ?_
            refine W.any (.move rfl) rfl rfl rfl ?_
            refine W.any (.move rfl) rfl rfl rfl ?_
            refine W.any (.remN nn 1000000 (nn % 1000000) rfl rfl rfl rfl (by omega) (rfl)) rfl rfl rfl ?_
            refine W.any (.addN ((2 * r) % 1000000) (nn % 1000000) (((2 * r) % 1000000) + (nn % 1000000)) rfl rfl rfl rfl (by omega)) rfl rfl rfl ?_
            refine W.any (.assign rfl) rfl rfl rfl ?_
            refine W.nil ?_
            refine E.thenN ?_
            refine WC.seq ?_
            refine WC.region ?_
            refine W.any (.move rfl) rfl rfl rfl ?_
            refine W.any (.move rfl) rfl rfl rfl ?_
            refine W.any (.move rfl) rfl rfl rfl ?_
            refine W.any (.quoN (((2 * r) % 1000000) + (nn % 1000000)) 1000000 ((((2 * r) % 1000000) + (nn % 1000000)) / 1000000) rfl rfl rfl rfl (by omega) (by omega) (rfl)) rfl rfl rfl ?_
            refine W.any (.addN (((2 * q) + ((2 * r) / 1000000)) + (nn / 1000000)) ((((2 * r) % 1000000) + (nn % 1000000)) / 1000000) ((((2 * q) + ((2 * r) / 1000000)) + (nn / 1000000)) + ((((2 * r) % 1000000) + (nn % 1000000)) / 1000000)) rfl rfl rfl rfl (by omega)) rfl rfl rfl ?_
            refine W.any (.assign rfl) rfl rfl rfl ?_
            refine W.nil ?_
            refine E.thenN ?_
            refine WC.seq ?_
            refine WC.region ?_
            refine W.any (.move rfl) rfl rfl rfl ?_
            refine W.any (.move rfl) rfl rfl rfl ?_
            refine W.any (.remN (((2 * r) % 1000000) + (nn % 1000000)) 1000000 ((((2 * r) % 1000000) + (nn % 1000000)) % 1000000) rfl rfl rfl rfl (by omega) (rfl)) rfl rfl rfl ?_
            refine W.any (.assign rfl) rfl rfl rfl ?_
            refine W.nil ?_
            refine E.thenN ?_
            refine WC.seq ?_
            refine WC.region ?_
            refine W.any (.move rfl) rfl rfl rfl ?_
            refine W.any (.gtr rfl rfl) rfl rfl rfl ?_
            refine W.nil ?_
            refine E.thenN ?_
            by_cases c3 : 1125899906842624 < ((((((2 * q) + ((2 * r) / 1000000)) + (nn / 1000000)) + ((((2 * r) % 1000000) + (nn % 1000000)) / 1000000)) : Nat) : Int)
            · refine WC.condY rfl (decide_eq_true c3) ?_
              refine WC.seq ?_
              refine WC.region ?_
              refine W.any (.assign rfl) rfl rfl rfl ?_
              refine W.any (.assign rfl) rfl rfl rfl ?_
              refine W.any (.assign rfl) rfl rfl rfl ?_
              refine W.nil ?_
              refine E.thenN ?_
              refine WC.ret ?_
              refine E.blkR ?_
              refine E.thenR ?_
              refine E.thenR ?_
              refine E.blkR ?_
              refine E.thenR ?_
              refine E.retG3 rfl rfl rfl rfl ?_
              exact ⟨0, by rw [partC_nat, if_neg (by have := mul_mono an nn (kk - 1); omega)], Ll0⟩
            · refine WC.condN rfl (decide_eq_false c3) ?_
              refine WC.skip ?_
              refine E.blkN ?_
              refine E.thenN ?_
              refine WC.region ?_
              refine W.any (.move rfl) rfl rfl rfl ?_
              refine W.any (.sub rfl rfl (by omega)) rfl rfl rfl ?_
              refine W.any (.assign rfl) rfl rfl rfl ?_
              refine W.nil ?_
              refine E.again (kk - 1, ((((2 * q) + ((2 * r) / 1000000)) + (nn / 1000000)) + ((((2 * r) % 1000000) + (nn % 1000000)) / 1000000)), ((((2 * r) % 1000000) + (nn % 1000000)) % 1000000)) (.cons rfl (.cons rfl (.cons rfl (.cons rfl (.cons rfl (.cons' rfl (int_eq (by omega)) (.nil _))))))) ?_ ?_
              · exact ⟨by omega, (part_step1 q r nn _ hX).trans hst.symm, Nat.mod_lt _ (by decide), by omega, Ll0, by have := sz0; omega⟩
              · first | omega | (simp only []; omega)
          · refine WC.condN rfl (decide_eq_false c2) ?_
            have hb0 : an / 2 ^ (kk - 1) % 2 = 0 := by omega
            rw [hb0, Nat.zero_mul, Nat.add_zero] at hst
            refine WC.skip ?_
            refine E.thenN ?_
            refine WC.seq ?_
            refine WC.region ?_
            refine W.any (.move rfl) rfl rfl rfl ?_
            refine W.any (.move rfl) rfl rfl rfl ?_
            refine W.any (.move rfl) rfl rfl rfl ?_
            refine W.any (.quoN ((2 * r) % 1000000) 1000000 (((2 * r) % 1000000) / 1000000) rfl rfl rfl rfl (by omega) (by omega) (rfl)) rfl rfl rfl ?_
            refine W.any (.addN ((2 * q) + ((2 * r) / 1000000)) (((2 * r) % 1000000) / 1000000) (((2 * q) + ((2 * r) / 1000000)) + (((2 * r) % 1000000) / 1000000)) rfl rfl rfl rfl (by omega)) rfl rfl rfl ?_
            refine W.any (.assign rfl) rfl rfl rfl ?_
            refine W.nil ?_
            refine E.thenN ?_
            refine WC.seq ?_
            refine WC.region ?_
            refine W.any (.move rfl) rfl rfl rfl ?_
            refine W.any (.move rfl) rfl rfl rfl ?_
            refine W.any (.remN ((2 * r) % 1000000) 1000000 (((2 * r) % 1000000) % 1000000) rfl rfl rfl rfl (by omega) (rfl)) rfl rfl rfl ?_
            refine W.any (.assign rfl) rfl rfl rfl ?_
            refine W.nil ?_
            refine E.thenN ?_
            refine WC.seq ?_
            refine WC.region ?_
            refine W.any (.move rfl) rfl rfl rfl ?_
            refine W.any (.gtr rfl rfl) rfl rfl rfl ?_
            refine W.nil ?_
            refine E.thenN ?_
            by_cases c3 : 1125899906842624 < (((((2 * q) + ((2 * r) / 1000000)) + (((2 * r) % 1000000) / 1000000)) : Nat) : Int)
            · refine WC.condY rfl (decide_eq_true c3) ?_
              refine WC.seq ?_
              refine WC.region ?_
              refine W.any (.assign rfl) rfl rfl rfl ?_
              refine W.any (.assign rfl) rfl rfl rfl ?_
              refine W.any (.assign rfl) rfl rfl rfl ?_
              refine W.nil ?_
              refine E.thenN ?_
              refine WC.ret ?_
              refine E.blkR ?_
              refine E.thenR ?_
              refine E.thenR ?_
              refine E.blkR ?_
              refine E.thenR ?_
              refine E.retG3 rfl rfl rfl rfl ?_
              exact ⟨0, by rw [partC_nat, if_neg (by have := mul_mono an nn (kk - 1); omega)], Ll0⟩
            · refine WC.condN rfl (decide_eq_false c3) ?_
              refine WC.skip ?_
              refine E.blkN ?_
              refine E.thenN ?_
              refine WC.region ?_
              refine W.any (.move rfl) rfl rfl rfl ?_
              refine W.any (.sub rfl rfl (by omega)) rfl rfl rfl ?_
              refine W.any (.assign rfl) rfl rfl rfl ?_
              refine W.nil ?_
              refine E.again (kk - 1, (((2 * q) + ((2 * r) / 1000000)) + (((2 * r) % 1000000) / 1000000)), (((2 * r) % 1000000) % 1000000)) (.cons rfl (.cons rfl (.cons rfl (.cons rfl (.cons rfl (.cons' rfl (int_eq (by omega)) (.nil _))))))) ?_ ?_
              · exact ⟨by omega, (part_step0 q r _ hX).trans hst.symm, Nat.mod_lt _ (by decide), by omega, Ll0, by have := sz0; omega⟩
              · first | omega | (simp only []; omega)
        · refine WC.condN rfl (decide_eq_false c1) ?_
          refine WC.exit ?_
          refine E.thenX ?_
          refine E.thenX ?_
          refine E.blkH ?_
          refine E.thenN ?_
          refine WC.seq ?_
          refine WC.region ?_
          refine W.any (.move rfl) rfl rfl rfl ?_
          refine W.rd (.idI (isS Try.underlying29) Try.underlying3 rfl (IntWalk.i64_in _ (by omega))) rfl rfl rfl ?_
          refine W.any (.move rfl) rfl rfl rfl ?_
          refine W.rd (.idI (isS Try.underlying29) Try.underlying3 rfl (IntWalk.i64_in _ (by omega))) rfl rfl rfl ?_
          refine W.any (.assign rfl) rfl rfl rfl ?_
          refine W.any (.assign rfl) rfl rfl rfl ?_
          refine W.any (.assign rfl) rfl rfl rfl ?_
          refine W.nil ?_
          refine E.thenN ?_
          refine WC.ret ?_
          refine E.retG3 rfl rfl rfl rfl ?_
          exact ⟨_, by rw [partC_nat, if_pos (by rw [show kk = 0 by omega] at hX; simp at hX; omega), show q = an * nn / 1000000 by rw [show kk = 0 by omega] at hX; simp at hX; omega], Ll0⟩
  · refine W.any (.dec (.move rfl) (congrArg not ((Bool.eq_false_iff.2 q1_3)))) rfl rfl rfl ?_
    refine W.skip rfl rfl rfl (rfl) rfl rfl ?_
    refine W.skip rfl rfl rfl (rfl) rfl rfl ?_
    refine W.any (.pickT rfl rfl rfl) rfl rfl rfl ?_
    refine W.any (.move rfl) rfl rfl rfl ?_
    refine W.skip rfl rfl rfl (rfl) rfl rfl ?_
    refine W.skip rfl rfl rfl (rfl) rfl rfl ?_
    refine W.any (.pickT rfl rfl rfl) rfl rfl rfl ?_
    refine W.nil ?_
    refine E.thenN ?_
    refine WC.condT rfl ?_
    refine WC.seq ?_
    refine WC.region ?_
    refine W.any (.assign rfl) rfl rfl rfl ?_
    refine W.any (.assign rfl) rfl rfl rfl ?_
    refine W.any (.assign rfl) rfl rfl rfl ?_
    refine W.nil ?_
    refine E.thenN ?_
    refine WC.ret ?_
    refine E.thenR ?_
    refine E.retG3 rfl rfl rfl rfl ?_
    exact ⟨0, (by first | rfl | (simp [partC, q1_3]; done) | (simp [partC, q1_3]; omega) | (simp [partC, q1_3]; split <;> first | (exfalso; omega) | (simp; done) | (simp; omega))), L1⟩

theorem rpart_ok (a num : Int) (hn : num ≤ 9223372036854775807) (w : World) : Calls Try.prog 131 #[.int .i64 (a), .int .i64 (num), .int .i64 (1000000)] w fun r w' => r = .returned (.tuple #[.int .i64 (partC a num).1, .bool (partC a num).2]) ∧ Le w w' := by
  refine enter Try.func131 rfl rfl ?_
  have L0 := Le.refl w
  refine WC.seq ?_
  refine WC.region ?_
  refine W.any (.assign rfl) rfl rfl rfl ?_
  refine W.any (.assign rfl) rfl rfl rfl ?_
  refine W.nil ?_
  refine E.thenN ?_
  refine WC.seq ?_
  refine WC.region ?_
  refine W.any (.move rfl) rfl rfl rfl ?_
  refine W.any (.move rfl) rfl rfl rfl ?_
  refine W.any (.move rfl) rfl rfl rfl ?_
  refine W.ef rfl rfl rfl ?_
  refine Ef.call go155 rfl rfl (rparts_ok a num hn w) ?_
  rintro _ w1_3 ⟨zz, rfl, h1_3⟩
  refine ⟨_, rfl, ?_⟩
  have L1 := L0.trans h1_3
  refine W.any (.move rfl) rfl rfl rfl ?_
  refine W.any (.extract (v := .int .i64 ((partC a num).1)) rfl rfl) rfl rfl rfl ?_
  refine W.any (.extract (v := .int .i64 (zz)) rfl rfl) rfl rfl rfl ?_
  refine W.any (.extract (v := .bool ((partC a num).2)) rfl rfl) rfl rfl rfl ?_
  refine W.any (.assign rfl) rfl rfl rfl ?_
  refine W.any (.assign rfl) rfl rfl rfl ?_
  refine W.any (.assign rfl) rfl rfl rfl ?_
  refine W.nil ?_
  refine E.thenN ?_
  refine WC.seq ?_
  refine WC.region ?_
  refine W.any (.move rfl) rfl rfl rfl ?_
  refine W.any (.move rfl) rfl rfl rfl ?_
  refine W.any (.assign rfl) rfl rfl rfl ?_
  refine W.any (.assign rfl) rfl rfl rfl ?_
  refine W.nil ?_
  refine E.thenN ?_
  refine WC.ret ?_
  refine E.retG2 rfl rfl rfl ?_
  exact ⟨rfl, L1⟩

theorem r33right_ok (p : Pol) (w : World) : Calls Try.prog 132 #[.agg (polV p).toArray] w fun r w' => r = .returned (.bool (polOk p)) ∧ Le w w' := by
  refine enter Try.func132 rfl rfl ?_
  have L0 := Le.refl w
  refine WC.seq ?_
  refine WC.region ?_
  refine W.ef rfl rfl rfl ?_
  refine Ef.boxA rfl ?_
  intro g0_0 w0_0 hg0_0 b0_0 h0_0
  have L1 := L0.trans h0_0
  have b0_0 : Blk w0_0 g0_0 74 (polV p).toArray := b0_0
  refine W.any (.assign rfl) rfl rfl rfl ?_
  refine W.nil ?_
  refine E.thenN ?_
  refine WC.seq ?_
  refine WC.region ?_
  refine W.any (.field0 fa74_0 rfl) rfl rfl rfl ?_
  refine W.rd (.loadB (v := .int .i64 (p.b)) na3 rfl b0_0 rfl) rfl rfl rfl ?_
  refine W.ef rfl rfl rfl ?_
  refine Ef.call go156 rfl rfl (r33in_ok p.b 0 1125899906842624 w0_0) ?_
  rintro _ w1_2 ⟨rfl, h1_2⟩
  refine ⟨_, rfl, ?_⟩
  have L2 := L1.trans h1_2
  by_cases q1_3 : inB p.b 0 1125899906842624 = true
  · refine W.any (.dec (.move rfl) (q1_3)) rfl rfl rfl ?_
    refine W.rdg (Any.rd (.field0 fa74_3 rfl) _) rfl rfl rfl (rfl) rfl rfl ?_
    have f3 := (b0_0.le h1_2)
    refine W.rdg (.loadB (v := .int .i64 (p.l)) na3 rfl f3 rfl) rfl rfl rfl (rfl) rfl rfl ?_
    refine W.efg rfl rfl rfl (rfl) rfl rfl ?_
    refine Ef.call go156 rfl rfl (r33in_ok p.l 0 1125899906842624 w1_2) ?_
    rintro _ w1_6 ⟨rfl, h1_6⟩
    refine ⟨_, rfl, ?_⟩
    have L4 := L2.trans h1_6
    refine W.any (.pickT rfl rfl rfl) rfl rfl rfl ?_
    by_cases q1_8 : inB p.l 0 1125899906842624 = true
    · refine W.any (.dec (.move rfl) (q1_8)) rfl rfl rfl ?_
      refine W.rdg (Any.rd (.field0 fa74_4 rfl) _) rfl rfl rfl (rfl) rfl rfl ?_
      have f5 := (f3.le h1_6)
      refine W.rdg (.loadB (v := .int .i64 (p.m)) na3 rfl f5 rfl) rfl rfl rfl (rfl) rfl rfl ?_
      refine W.rdg (Any.rd (.field0 fa74_3 rfl) _) rfl rfl rfl (rfl) rfl rfl ?_
      refine W.rdg (.loadB (v := .int .i64 (p.l)) na3 rfl f5 rfl) rfl rfl rfl (rfl) rfl rfl ?_
      refine W.efg rfl rfl rfl (rfl) rfl rfl ?_
      refine Ef.call go156 rfl rfl (r33in_ok p.m p.l 1125899906842624 w1_6) ?_
      rintro _ w1_13 ⟨rfl, h1_13⟩
      refine ⟨_, rfl, ?_⟩
      have L6 := L4.trans h1_13
      refine W.any (.pickT rfl rfl rfl) rfl rfl rfl ?_
      by_cases q1_15 : inB p.m p.l 1125899906842624 = true
      · refine W.any (.dec (.move rfl) (q1_15)) rfl rfl rfl ?_
        refine W.rdg (Any.rd (.field0 fa74_1 rfl) _) rfl rfl rfl (rfl) rfl rfl ?_
        have f7 := (f5.le h1_13)
        refine W.rdg (.loadB (v := .int .i64 (p.p)) na3 rfl f7 rfl) rfl rfl rfl (rfl) rfl rfl ?_
        refine W.efg rfl rfl rfl (rfl) rfl rfl ?_
        refine Ef.call go156 rfl rfl (r33in_ok p.p 0 1000000 w1_13) ?_
        rintro _ w1_18 ⟨rfl, h1_18⟩
        refine ⟨_, rfl, ?_⟩
        have L8 := L6.trans h1_18
        refine W.any (.pickT rfl rfl rfl) rfl rfl rfl ?_
        by_cases q1_20 : inB p.p 0 1000000 = true
        · refine W.any (.dec (.move rfl) (q1_20)) rfl rfl rfl ?_
          refine W.rdg (Any.rd (.field0 fa74_2 rfl) _) rfl rfl rfl (rfl) rfl rfl ?_
          have f9 := (f7.le h1_18)
          refine W.rdg (.loadB (v := .int .i64 (p.d)) na3 rfl f9 rfl) rfl rfl rfl (rfl) rfl rfl ?_
          refine W.efg rfl rfl rfl (rfl) rfl rfl ?_
          refine Ef.call go156 rfl rfl (r33in_ok p.d 0 1048576 w1_18) ?_
          rintro _ w1_23 ⟨rfl, h1_23⟩
          refine ⟨_, rfl, ?_⟩
          have L10 := L8.trans h1_23
          refine W.any (.pickT rfl rfl rfl) rfl rfl rfl ?_
          refine W.any (.assign rfl) rfl rfl rfl ?_
          refine W.nil ?_
          refine E.thenN ?_
          refine WC.ret ?_
          refine E.retG1 rfl rfl ?_
          exact ⟨congrArg (fun b => Ending.returned (Value.bool b)) (by simp only [polOk, inB] at *; rw [Bool.eq_iff_iff]; simp at *; omega), L10⟩
        · refine W.any (.dec (.move rfl) ((Bool.eq_false_iff.2 q1_20))) rfl rfl rfl ?_
          refine W.skip rfl rfl rfl (rfl) rfl rfl ?_
          refine W.skip rfl rfl rfl (rfl) rfl rfl ?_
          refine W.skip rfl rfl rfl (rfl) rfl rfl ?_
          refine W.any (.pickF rfl rfl rfl) rfl rfl rfl ?_
          refine W.any (.assign rfl) rfl rfl rfl ?_
          refine W.nil ?_
          refine E.thenN ?_
          refine WC.ret ?_
          refine E.retG1 rfl rfl ?_
          exact ⟨congrArg (fun b => Ending.returned (Value.bool b)) (by simp only [polOk, inB] at *; rw [Bool.eq_iff_iff]; simp at *; omega), L8⟩
      · refine W.any (.dec (.move rfl) ((Bool.eq_false_iff.2 q1_15))) rfl rfl rfl ?_
        refine W.skip rfl rfl rfl (rfl) rfl rfl ?_
        refine W.skip rfl rfl rfl (rfl) rfl rfl ?_
        refine W.skip rfl rfl rfl (rfl) rfl rfl ?_
        refine W.any (.pickF rfl rfl rfl) rfl rfl rfl ?_
        refine W.any (.move rfl) rfl rfl rfl ?_
        refine W.skip rfl rfl rfl (rfl) rfl rfl ?_
        refine W.skip rfl rfl rfl (rfl) rfl rfl ?_
        refine W.skip rfl rfl rfl (rfl) rfl rfl ?_
        refine W.any (.pickF rfl rfl rfl) rfl rfl rfl ?_
        refine W.any (.assign rfl) rfl rfl rfl ?_
        refine W.nil ?_
        refine E.thenN ?_
        refine WC.ret ?_
        refine E.retG1 rfl rfl ?_
        exact ⟨congrArg (fun b => Ending.returned (Value.bool b)) (by simp only [polOk, inB] at *; rw [Bool.eq_iff_iff]; simp at *; omega), L6⟩
    · refine W.any (.dec (.move rfl) ((Bool.eq_false_iff.2 q1_8))) rfl rfl rfl ?_
      refine W.skip rfl rfl rfl (rfl) rfl rfl ?_
      refine W.skip rfl rfl rfl (rfl) rfl rfl ?_
      refine W.skip rfl rfl rfl (rfl) rfl rfl ?_
      refine W.skip rfl rfl rfl (rfl) rfl rfl ?_
      refine W.skip rfl rfl rfl (rfl) rfl rfl ?_
      refine W.any (.pickF rfl rfl rfl) rfl rfl rfl ?_
      refine W.any (.move rfl) rfl rfl rfl ?_
      refine W.skip rfl rfl rfl (rfl) rfl rfl ?_
      refine W.skip rfl rfl rfl (rfl) rfl rfl ?_
      refine W.skip rfl rfl rfl (rfl) rfl rfl ?_
      refine W.any (.pickF rfl rfl rfl) rfl rfl rfl ?_
      refine W.any (.move rfl) rfl rfl rfl ?_
      refine W.skip rfl rfl rfl (rfl) rfl rfl ?_
      refine W.skip rfl rfl rfl (rfl) rfl rfl ?_
      refine W.skip rfl rfl rfl (rfl) rfl rfl ?_
      refine W.any (.pickF rfl rfl rfl) rfl rfl rfl ?_
      refine W.any (.assign rfl) rfl rfl rfl ?_
      refine W.nil ?_
      refine E.thenN ?_
      refine WC.ret ?_
      refine E.retG1 rfl rfl ?_
      exact ⟨congrArg (fun b => Ending.returned (Value.bool b)) (by simp only [polOk, inB] at *; rw [Bool.eq_iff_iff]; simp at *; omega), L4⟩
  · refine W.any (.dec (.move rfl) ((Bool.eq_false_iff.2 q1_3))) rfl rfl rfl ?_
    refine W.skip rfl rfl rfl (rfl) rfl rfl ?_
    refine W.skip rfl rfl rfl (rfl) rfl rfl ?_
    refine W.skip rfl rfl rfl (rfl) rfl rfl ?_
    refine W.any (.pickF rfl rfl rfl) rfl rfl rfl ?_
    refine W.any (.move rfl) rfl rfl rfl ?_
    refine W.skip rfl rfl rfl (rfl) rfl rfl ?_
    refine W.skip rfl rfl rfl (rfl) rfl rfl ?_
    refine W.skip rfl rfl rfl (rfl) rfl rfl ?_
    refine W.skip rfl rfl rfl (rfl) rfl rfl ?_
    refine W.skip rfl rfl rfl (rfl) rfl rfl ?_
    refine W.any (.pickF rfl rfl rfl) rfl rfl rfl ?_
    refine W.any (.move rfl) rfl rfl rfl ?_
    refine W.skip rfl rfl rfl (rfl) rfl rfl ?_
    refine W.skip rfl rfl rfl (rfl) rfl rfl ?_
    refine W.skip rfl rfl rfl (rfl) rfl rfl ?_
    refine W.any (.pickF rfl rfl rfl) rfl rfl rfl ?_
    refine W.any (.move rfl) rfl rfl rfl ?_
    refine W.skip rfl rfl rfl (rfl) rfl rfl ?_
    refine W.skip rfl rfl rfl (rfl) rfl rfl ?_
    refine W.skip rfl rfl rfl (rfl) rfl rfl ?_
    refine W.any (.pickF rfl rfl rfl) rfl rfl rfl ?_
    refine W.any (.assign rfl) rfl rfl rfl ?_
    refine W.nil ?_
    refine E.thenN ?_
    refine WC.ret ?_
    refine E.retG1 rfl rfl ?_
    exact ⟨congrArg (fun b => Ending.returned (Value.bool b)) (by simp only [polOk, inB] at *; rw [Bool.eq_iff_iff]; simp at *; omega), L2⟩

theorem r33fee_ok (p : Pol) (a : Int) (hp : PolI p) (w : World) : Calls Try.prog 78 #[.agg (polV p).toArray, .int .i64 (a)] w fun r w' => r = .returned (.tuple #[.int .i64 (feeG p a).1, .bool (feeG p a).2]) ∧ Le w w' := by
  have hp2 := hp.2.1
  refine enter Try.func78 rfl rfl ?_
  have L0 := Le.refl w
  refine WC.seq ?_
  refine WC.region ?_
  refine W.ef rfl rfl rfl ?_
  refine Ef.boxA rfl ?_
  intro g0_0 w0_0 hg0_0 b0_0 h0_0
  have L1 := L0.trans h0_0
  have b0_0 : Blk w0_0 g0_0 74 (polV p).toArray := b0_0
  refine W.any (.assign rfl) rfl rfl rfl ?_
  refine W.any (.assign rfl) rfl rfl rfl ?_
  refine W.nil ?_
  refine E.thenN ?_
  refine WC.seq ?_
  refine WC.region ?_
  refine W.any (.move rfl) rfl rfl rfl ?_
  refine W.any (.field0 fa74_1 rfl) rfl rfl rfl ?_
  refine W.rd (.loadB (v := .int .i64 (p.p)) na3 rfl b0_0 rfl) rfl rfl rfl ?_
  refine W.ef rfl rfl rfl ?_
  refine Ef.call go131 rfl rfl (rpart_ok a p.p (by omega) w0_0) ?_
  rintro _ w1_3 ⟨rfl, h1_3⟩
  refine ⟨_, rfl, ?_⟩
  have L2 := L1.trans h1_3
  refine W.any (.move rfl) rfl rfl rfl ?_
  refine W.any (.extract (v := .int .i64 ((partC a p.p).1)) rfl rfl) rfl rfl rfl ?_
  refine W.any (.extract (v := .bool ((partC a p.p).2)) rfl rfl) rfl rfl rfl ?_
  refine W.any (.assign rfl) rfl rfl rfl ?_
  refine W.any (.assign rfl) rfl rfl rfl ?_
  refine W.nil ?_
  refine E.thenN ?_
  refine WC.seq ?_
  refine WC.seq ?_
  refine WC.region ?_
  have f3 := (b0_0.le h1_3)
  refine W.rd (.loadAll ag74 (by rfl) rfl f3) rfl rfl rfl ?_
  refine W.ef rfl rfl rfl ?_
  refine Ef.call go132 rfl rfl (r33right_ok p w1_3) ?_
  rintro _ w2_1 ⟨rfl, h2_1⟩
  refine ⟨_, rfl, ?_⟩
  have L4 := L2.trans h2_1
  refine W.any (.not rfl) rfl rfl rfl ?_
  by_cases q2_3 : polOk p = true
  · refine W.any (.dec (.move rfl) (congrArg not (q2_3))) rfl rfl rfl ?_
    refine W.rdg (Any.rd (.move rfl) _) rfl rfl rfl (rfl) rfl rfl ?_
    refine W.rdg (Any.rd (.not rfl) _) rfl rfl rfl (rfl) rfl rfl ?_
    refine W.any (.pickF rfl rfl rfl) rfl rfl rfl ?_
    refine W.nil ?_
    refine E.thenN ?_
    by_cases c0 : (partC a p.p).2 = true
    · refine WC.condN rfl (congrArg not (c0)) ?_
      refine WC.skip ?_
      refine E.thenN ?_
      refine WC.seq ?_
      refine WC.region ?_
      refine W.any (.field0 fa74_0 rfl) rfl rfl rfl ?_
      have f5 := (f3.le h2_1)
      refine W.rd (.loadB (v := .int .i64 (p.b)) na3 rfl f5 rfl) rfl rfl rfl ?_
      refine W.any (.move rfl) rfl rfl rfl ?_
      refine W.ef rfl rfl rfl ?_
      refine Ef.call go79 rfl rfl (radd_ok p.b ((partC a p.p).1) w2_1) ?_
      rintro _ w4_3 ⟨rfl, h4_3⟩
      refine ⟨_, rfl, ?_⟩
      have L6 := L4.trans h4_3
      refine W.any (.extract (v := .int .i64 ((addC p.b ((partC a p.p).1)).1)) rfl rfl) rfl rfl rfl ?_
      refine W.any (.extract (v := .bool ((addC p.b ((partC a p.p).1)).2)) rfl rfl) rfl rfl rfl ?_
      refine W.any (.assign rfl) rfl rfl rfl ?_
      refine W.any (.assign rfl) rfl rfl rfl ?_
      refine W.nil ?_
      refine E.thenN ?_
      refine WC.ret ?_
      refine E.retG2 rfl rfl rfl ?_
      exact ⟨(by first | rfl | (simp [feeG, q2_3, c0]; done) | (simp [feeG, q2_3, c0]; omega) | (simp [feeG, q2_3, c0]; split <;> first | (exfalso; omega) | (simp; done) | (simp; omega))), L6⟩
    · refine WC.condY rfl (congrArg not ((Bool.eq_false_iff.2 c0))) ?_
      refine WC.seq ?_
      refine WC.region ?_
      refine W.any (.assign rfl) rfl rfl rfl ?_
      refine W.any (.assign rfl) rfl rfl rfl ?_
      refine W.nil ?_
      refine E.thenN ?_
      refine WC.ret ?_
      refine E.thenR ?_
      refine E.retG2 rfl rfl rfl ?_
      exact ⟨(by first | rfl | (simp [feeG, q2_3, c0]; done) | (simp [feeG, q2_3, c0]; omega) | (simp [feeG, q2_3, c0]; split <;> first | (exfalso; omega) | (simp; done) | (simp; omega))), L4⟩
  · refine W.any (.dec (.move rfl) (congrArg not ((Bool.eq_false_iff.2 q2_3)))) rfl rfl rfl ?_
    refine W.skip rfl rfl rfl (rfl) rfl rfl ?_
    refine W.skip rfl rfl rfl (rfl) rfl rfl ?_
    refine W.any (.pickT rfl rfl rfl) rfl rfl rfl ?_
    refine W.nil ?_
    refine E.thenN ?_
    refine WC.condT rfl ?_
    refine WC.seq ?_
    refine WC.region ?_
    refine W.any (.assign rfl) rfl rfl rfl ?_
    refine W.any (.assign rfl) rfl rfl rfl ?_
    refine W.nil ?_
    refine E.thenN ?_
    refine WC.ret ?_
    refine E.thenR ?_
    refine E.retG2 rfl rfl rfl ?_
    exact ⟨(by first | rfl | (simp [feeG, q2_3]; done) | (simp [feeG, q2_3]; omega) | (simp [feeG, q2_3]; split <;> first | (exfalso; omega) | (simp; done) | (simp; omega))), L4⟩

theorem r36edge_ok (e : Gsp.Edge) (w : World) : Calls Try.prog 130 #[.agg (edgeV e).toArray] w fun r w' => r = .returned (.bool (edgeOk e)) ∧ Le w w' := by
  refine enter Try.func130 rfl rfl ?_
  have L0 := Le.refl w
  refine WC.seq ?_
  refine WC.region ?_
  refine W.ef rfl rfl rfl ?_
  refine Ef.boxA rfl ?_
  intro g0_0 w0_0 hg0_0 b0_0 h0_0
  have L1 := L0.trans h0_0
  have b0_0 : Blk w0_0 g0_0 76 (edgeV e).toArray := b0_0
  refine W.any (.assign rfl) rfl rfl rfl ?_
  refine W.nil ?_
  refine E.thenN ?_
  refine WC.seq ?_
  refine WC.region ?_
  refine W.any (.field0 fa76_4 rfl) rfl rfl rfl ?_
  refine W.rd (.bpart (polV e.pol) ag74 rfl (by decide) rfl b0_0 rfl) rfl rfl rfl ?_
  refine W.ef rfl rfl rfl ?_
  refine Ef.call go132 rfl rfl (r33right_ok e.pol w0_0) ?_
  rintro _ w1_2 ⟨rfl, h1_2⟩
  refine ⟨_, rfl, ?_⟩
  have L2 := L1.trans h1_2
  refine W.any (.assign rfl) rfl rfl rfl ?_
  refine W.nil ?_
  refine E.thenN ?_
  refine WC.seq ?_
  refine WC.region ?_
  refine W.any (.field0 fa76_0 rfl) rfl rfl rfl ?_
  have f3 := (b0_0.le h1_2)
  refine W.rd (.loadB (v := .int .i64 (e.f)) na3 rfl f3 rfl) rfl rfl rfl ?_
  refine W.ef rfl rfl rfl ?_
  refine Ef.call go77 rfl rfl (r36in_ok e.f 0 11 w1_2) ?_
  rintro _ w2_2 ⟨rfl, h2_2⟩
  refine ⟨_, rfl, ?_⟩
  have L4 := L2.trans h2_2
  by_cases q2_3 : inB e.f 0 11 = true
  · refine W.any (.dec (.move rfl) (q2_3)) rfl rfl rfl ?_
    refine W.rdg (Any.rd (.field0 fa76_1 rfl) _) rfl rfl rfl (rfl) rfl rfl ?_
    have f5 := (f3.le h2_2)
    refine W.rdg (.loadB (v := .int .i64 (e.t)) na3 rfl f5 rfl) rfl rfl rfl (rfl) rfl rfl ?_
    refine W.efg rfl rfl rfl (rfl) rfl rfl ?_
    refine Ef.call go77 rfl rfl (r36in_ok e.t 0 11 w2_2) ?_
    rintro _ w2_6 ⟨rfl, h2_6⟩
    refine ⟨_, rfl, ?_⟩
    have L6 := L4.trans h2_6
    refine W.any (.pickT rfl rfl rfl) rfl rfl rfl ?_
    by_cases q2_8 : inB e.t 0 11 = true
    · refine W.any (.dec (.move rfl) (q2_8)) rfl rfl rfl ?_
      refine W.rdg (Any.rd (.field0 fa76_0 rfl) _) rfl rfl rfl (rfl) rfl rfl ?_
      have f7 := (f5.le h2_6)
      refine W.rdg (.loadB (v := .int .i64 (e.f)) na3 rfl f7 rfl) rfl rfl rfl (rfl) rfl rfl ?_
      refine W.rdg (Any.rd (.field0 fa76_1 rfl) _) rfl rfl rfl (rfl) rfl rfl ?_
      refine W.rdg (.loadB (v := .int .i64 (e.t)) na3 rfl f7 rfl) rfl rfl rfl (rfl) rfl rfl ?_
      refine W.rdg (Any.rd (.neq rfl rfl) _) rfl rfl rfl (rfl) rfl rfl ?_
      refine W.any (.pickT rfl rfl rfl) rfl rfl rfl ?_
      by_cases q2_15 : e.f ≠ e.t
      · refine W.any (.dec (.move rfl) (decide_eq_true q2_15)) rfl rfl rfl ?_
        refine W.rdg (Any.rd (.field0 fa76_2 rfl) _) rfl rfl rfl (rfl) rfl rfl ?_
        refine W.rdg (.loadB (v := .int .i64 (e.c)) na3 rfl f7 rfl) rfl rfl rfl (rfl) rfl rfl ?_
        refine W.efg rfl rfl rfl (rfl) rfl rfl ?_
        refine Ef.call go77 rfl rfl (r36in_ok e.c 0 39 w2_6) ?_
        rintro _ w2_18 ⟨rfl, h2_18⟩
        refine ⟨_, rfl, ?_⟩
        have L8 := L6.trans h2_18
        refine W.any (.pickT rfl rfl rfl) rfl rfl rfl ?_
        by_cases q2_20 : inB e.c 0 39 = true
        · refine W.any (.dec (.move rfl) (q2_20)) rfl rfl rfl ?_
          refine W.rdg (Any.rd (.field0 fa76_3 rfl) _) rfl rfl rfl (rfl) rfl rfl ?_
          have f9 := (f7.le h2_18)
          refine W.rdg (.loadB (v := .int .i64 (e.r)) na3 rfl f9 rfl) rfl rfl rfl (rfl) rfl rfl ?_
          refine W.efg rfl rfl rfl (rfl) rfl rfl ?_
          refine Ef.call go77 rfl rfl (r36in_ok e.r 1 1125899906842624 w2_18) ?_
          rintro _ w2_23 ⟨rfl, h2_23⟩
          refine ⟨_, rfl, ?_⟩
          have L10 := L8.trans h2_23
          refine W.any (.pickT rfl rfl rfl) rfl rfl rfl ?_
          by_cases q2_25 : inB e.r 1 1125899906842624 = true
          · refine W.any (.dec (.move rfl) (q2_25)) rfl rfl rfl ?_
            refine W.rdg (Any.rd (.move rfl) _) rfl rfl rfl (rfl) rfl rfl ?_
            refine W.any (.pickT rfl rfl rfl) rfl rfl rfl ?_
            refine W.any (.assign rfl) rfl rfl rfl ?_
            refine W.nil ?_
            refine E.thenN ?_
            refine WC.ret ?_
            refine E.retG1 rfl rfl ?_
            exact ⟨congrArg (fun b => Ending.returned (Value.bool b)) (by simp [edgeOk, q2_3, q2_8, q2_15, q2_20, q2_25]), L10⟩
          · refine W.any (.dec (.move rfl) ((Bool.eq_false_iff.2 q2_25))) rfl rfl rfl ?_
            refine W.skip rfl rfl rfl (rfl) rfl rfl ?_
            refine W.any (.pickF rfl rfl rfl) rfl rfl rfl ?_
            refine W.any (.assign rfl) rfl rfl rfl ?_
            refine W.nil ?_
            refine E.thenN ?_
            refine WC.ret ?_
            refine E.retG1 rfl rfl ?_
            exact ⟨congrArg (fun b => Ending.returned (Value.bool b)) (by simp [edgeOk, q2_3, q2_8, q2_15, q2_20, q2_25]), L10⟩
        · refine W.any (.dec (.move rfl) ((Bool.eq_false_iff.2 q2_20))) rfl rfl rfl ?_
          refine W.skip rfl rfl rfl (rfl) rfl rfl ?_
          refine W.skip rfl rfl rfl (rfl) rfl rfl ?_
          refine W.skip rfl rfl rfl (rfl) rfl rfl ?_
          refine W.any (.pickF rfl rfl rfl) rfl rfl rfl ?_
          refine W.any (.move rfl) rfl rfl rfl ?_
          refine W.skip rfl rfl rfl (rfl) rfl rfl ?_
          refine W.any (.pickF rfl rfl rfl) rfl rfl rfl ?_
          refine W.any (.assign rfl) rfl rfl rfl ?_
          refine W.nil ?_
          refine E.thenN ?_
          refine WC.ret ?_
          refine E.retG1 rfl rfl ?_
          exact ⟨congrArg (fun b => Ending.returned (Value.bool b)) (by simp [edgeOk, q2_3, q2_8, q2_15, q2_20]), L8⟩
      · refine W.any (.dec (.move rfl) (decide_eq_false q2_15)) rfl rfl rfl ?_
        refine W.skip rfl rfl rfl (rfl) rfl rfl ?_
        refine W.skip rfl rfl rfl (rfl) rfl rfl ?_
        refine W.skip rfl rfl rfl (rfl) rfl rfl ?_
        refine W.any (.pickF rfl rfl rfl) rfl rfl rfl ?_
        refine W.any (.move rfl) rfl rfl rfl ?_
        refine W.skip rfl rfl rfl (rfl) rfl rfl ?_
        refine W.skip rfl rfl rfl (rfl) rfl rfl ?_
        refine W.skip rfl rfl rfl (rfl) rfl rfl ?_
        refine W.any (.pickF rfl rfl rfl) rfl rfl rfl ?_
        refine W.any (.move rfl) rfl rfl rfl ?_
        refine W.skip rfl rfl rfl (rfl) rfl rfl ?_
        refine W.any (.pickF rfl rfl rfl) rfl rfl rfl ?_
        refine W.any (.assign rfl) rfl rfl rfl ?_
        refine W.nil ?_
        refine E.thenN ?_
        refine WC.ret ?_
        refine E.retG1 rfl rfl ?_
        exact ⟨congrArg (fun b => Ending.returned (Value.bool b)) (by simp [edgeOk, q2_3, q2_8, q2_15]), L6⟩
    · refine W.any (.dec (.move rfl) ((Bool.eq_false_iff.2 q2_8))) rfl rfl rfl ?_
      refine W.skip rfl rfl rfl (rfl) rfl rfl ?_
      refine W.skip rfl rfl rfl (rfl) rfl rfl ?_
      refine W.skip rfl rfl rfl (rfl) rfl rfl ?_
      refine W.skip rfl rfl rfl (rfl) rfl rfl ?_
      refine W.skip rfl rfl rfl (rfl) rfl rfl ?_
      refine W.any (.pickF rfl rfl rfl) rfl rfl rfl ?_
      refine W.any (.move rfl) rfl rfl rfl ?_
      refine W.skip rfl rfl rfl (rfl) rfl rfl ?_
      refine W.skip rfl rfl rfl (rfl) rfl rfl ?_
      refine W.skip rfl rfl rfl (rfl) rfl rfl ?_
      refine W.any (.pickF rfl rfl rfl) rfl rfl rfl ?_
      refine W.any (.move rfl) rfl rfl rfl ?_
      refine W.skip rfl rfl rfl (rfl) rfl rfl ?_
      refine W.skip rfl rfl rfl (rfl) rfl rfl ?_
      refine W.skip rfl rfl rfl (rfl) rfl rfl ?_
      refine W.any (.pickF rfl rfl rfl) rfl rfl rfl ?_
      refine W.any (.move rfl) rfl rfl rfl ?_
      refine W.skip rfl rfl rfl (rfl) rfl rfl ?_
      refine W.any (.pickF rfl rfl rfl) rfl rfl rfl ?_
      refine W.any (.assign rfl) rfl rfl rfl ?_
      refine W.nil ?_
      refine E.thenN ?_
      refine WC.ret ?_
      refine E.retG1 rfl rfl ?_
      exact ⟨congrArg (fun b => Ending.returned (Value.bool b)) (by simp [edgeOk, q2_3, q2_8]), L6⟩
  · refine W.any (.dec (.move rfl) ((Bool.eq_false_iff.2 q2_3))) rfl rfl rfl ?_
    refine W.skip rfl rfl rfl (rfl) rfl rfl ?_
    refine W.skip rfl rfl rfl (rfl) rfl rfl ?_
    refine W.skip rfl rfl rfl (rfl) rfl rfl ?_
    refine W.any (.pickF rfl rfl rfl) rfl rfl rfl ?_
    refine W.any (.move rfl) rfl rfl rfl ?_
    refine W.skip rfl rfl rfl (rfl) rfl rfl ?_
    refine W.skip rfl rfl rfl (rfl) rfl rfl ?_
    refine W.skip rfl rfl rfl (rfl) rfl rfl ?_
    refine W.skip rfl rfl rfl (rfl) rfl rfl ?_
    refine W.skip rfl rfl rfl (rfl) rfl rfl ?_
    refine W.any (.pickF rfl rfl rfl) rfl rfl rfl ?_
    refine W.any (.move rfl) rfl rfl rfl ?_
    refine W.skip rfl rfl rfl (rfl) rfl rfl ?_
    refine W.skip rfl rfl rfl (rfl) rfl rfl ?_
    refine W.skip rfl rfl rfl (rfl) rfl rfl ?_
    refine W.any (.pickF rfl rfl rfl) rfl rfl rfl ?_
    refine W.any (.move rfl) rfl rfl rfl ?_
    refine W.skip rfl rfl rfl (rfl) rfl rfl ?_
    refine W.skip rfl rfl rfl (rfl) rfl rfl ?_
    refine W.skip rfl rfl rfl (rfl) rfl rfl ?_
    refine W.any (.pickF rfl rfl rfl) rfl rfl rfl ?_
    refine W.any (.move rfl) rfl rfl rfl ?_
    refine W.skip rfl rfl rfl (rfl) rfl rfl ?_
    refine W.any (.pickF rfl rfl rfl) rfl rfl rfl ?_
    refine W.any (.assign rfl) rfl rfl rfl ?_
    refine W.nil ?_
    refine E.thenN ?_
    refine WC.ret ?_
    refine E.retG1 rfl rfl ?_
    exact ⟨congrArg (fun b => Ending.returned (Value.bool b)) (by simp [edgeOk, q2_3]), L4⟩

theorem ints_ok {A B : Option Addr} {n c m d : Nat} {xs ys : List (Int)} (w : World) (hV : Vec w iv 1 A n xs) (hU : Vec w iv 1 B m ys) (hn : n ≤ 1000000) : Calls Try.prog 37 #[.slice A n c, .slice B m d] w fun r w' => r = .returned (.bool (decide (xs = ys))) ∧ Le w w' := by
  have hl := hV.1
  have hm := hU.1
  refine enter Try.func37 rfl rfl ?_
  have L0 := Le.refl w
  refine WC.seq ?_
  refine WC.region ?_
  refine W.any (.assign rfl) rfl rfl rfl ?_
  refine W.nil ?_
  refine E.thenN ?_
  refine WC.seq ?_
  refine WC.seq ?_
  refine WC.region ?_
  refine W.any (.move rfl) rfl rfl rfl ?_
  refine W.rd (.len Try.underlying53 rfl) rfl rfl rfl ?_
  refine W.any (.move rfl) rfl rfl rfl ?_
  refine W.rd (.len Try.underlying53 rfl) rfl rfl rfl ?_
  refine W.any (.neq rfl rfl) rfl rfl rfl ?_
  refine W.nil ?_
  refine E.thenN ?_
  by_cases c0 : ((n : Nat) : Int) ≠ ((m : Nat) : Int)
  · refine WC.condY rfl (decide_eq_true c0) ?_
    refine WC.seq ?_
    refine WC.region ?_
    refine W.any (.assign rfl) rfl rfl rfl ?_
    refine W.nil ?_
    refine E.thenN ?_
    refine WC.ret ?_
    refine E.thenR ?_
    refine E.retG1 rfl rfl ?_
    exact ⟨congrArg (fun b => Ending.returned (Value.bool b)) (decide_eq_false (fun h => by subst h; first | omega | exact absurd rfl (by assumption))).symm, L0⟩
  · refine WC.condN rfl (decide_eq_false c0) ?_
    refine WC.skip ?_
    refine E.thenN ?_
    refine WC.seq ?_
    refine WC.seq ?_
    refine WC.region ?_
    refine W.any (.assign rfl) rfl rfl rfl ?_
    refine W.nil ?_
    refine E.thenN ?_
    refine WC.block ?_
    refine WC.loop (ι := Nat) (fun k => [(0, .slice A n c), (1, .slice B m d), (5, .int .i64 (((k : Nat) : Int)))]) (fun k wl0 => (k ≤ n) ∧ (∀ j, j < k → xs.getD j 0 = ys.getD j 0) ∧ Le w wl0 ∧ w.heap.size ≤ wl0.heap.size) (fun k => n - k) 0 ?_ ?_ ?_
    · exact .cons rfl (.cons rfl (.cons rfl (.nil _)))
    · exact ⟨Nat.zero_le _, fun j hj => absurd hj (Nat.not_lt_zero _), L0, Nat.le_refl _⟩
    · rintro k wl0 ⟨hk, hz, Ll0, sz0⟩
      refine WC.seq ?_
      refine WC.seq ?_
      refine WC.region ?_
      refine W.any (.move rfl) rfl rfl rfl ?_
      refine W.any (.move rfl) rfl rfl rfl ?_
      refine W.rd (.len Try.underlying53 rfl) rfl rfl rfl ?_
      refine W.any (.lss rfl rfl) rfl rfl rfl ?_
      refine W.nil ?_
      refine E.thenN ?_
      by_cases c1 : ((k : Nat) : Int) < ((n : Nat) : Int)
      · refine WC.condY rfl (decide_eq_true c1) ?_
        refine WC.skip ?_
        refine E.thenN ?_
        refine WC.seq ?_
        refine WC.block ?_
        refine WC.seq ?_
        refine WC.draw [0, 1, 2, 3, 4, 5, 6, 7, 8] mixed (by kernel_rfl) ?_
        intro w6 d6
        have L1 := Ll0.trans d6
        refine G.any rfl rfl (.move rfl) rfl rfl rfl ?_
        refine G.any rfl rfl (.move rfl) rfl rfl rfl ?_
        refine G.any rfl rfl (.idxS (k) Try.underlying53 sz3 rfl rfl (hV.isSome iv_row (by omega)) (rfl) (by omega)) rfl rfl rfl ?_
        refine G.rd rfl rfl (.vone (v := .int .i64 ((xs.getD k 0))) na3 rfl (hV.le L1) iv_row (getS xs 0 (by first | omega | (simp only [List.length_cons, List.length_nil]; omega))) rfl) rfl rfl rfl ?_
        refine G.any rfl rfl (.move rfl) rfl rfl rfl ?_
        refine G.any rfl rfl (.move rfl) rfl rfl rfl ?_
        refine G.any rfl rfl (.idxS (k) Try.underlying53 sz3 rfl rfl (hU.isSome iv_row (by omega)) (rfl) (by omega)) rfl rfl rfl ?_
        refine G.rd rfl rfl (.vone (v := .int .i64 ((ys.getD k 0))) na3 rfl (hU.le L1) iv_row (getS ys 0 (by first | omega | (simp only [List.length_cons, List.length_nil]; omega))) rfl) rfl rfl rfl ?_
        refine G.any rfl rfl (.neq rfl rfl) rfl rfl rfl ?_
        refine G.nil ?_
        refine E.thenN ?_
        by_cases c2 : (xs.getD k 0) ≠ (ys.getD k 0)
        · refine WC.condY rfl (decide_eq_true c2) ?_
          refine WC.seq ?_
          refine WC.region ?_
          refine W.any (.assign rfl) rfl rfl rfl ?_
          refine W.nil ?_
          refine E.thenN ?_
          refine WC.ret ?_
          refine E.blkR ?_
          refine E.thenR ?_
          refine E.thenR ?_
          refine E.blkR ?_
          refine E.thenR ?_
          refine E.retG1 rfl rfl ?_
          exact ⟨congrArg (fun b => Ending.returned (Value.bool b)) (decide_eq_false (fun h => by subst h; first | omega | exact absurd rfl (by assumption))).symm, L1⟩
        · refine WC.condN rfl (decide_eq_false c2) ?_
          refine WC.skip ?_
          refine E.blkN ?_
          refine E.thenN ?_
          refine WC.region ?_
          refine W.any (.move rfl) rfl rfl rfl ?_
          refine W.any (.add rfl rfl (by omega)) rfl rfl rfl ?_
          refine W.any (.assign rfl) rfl rfl rfl ?_
          refine W.nil ?_
          refine E.again (k + 1) (.cons rfl (.cons rfl (.cons rfl (.nil _)))) ?_ ?_
          · exact ⟨by omega, fun j hj => by rcases Nat.lt_or_ge j k with h | h; exact hz j h; rw [show j = k by omega]; first | exact Decidable.not_not.1 c2 | exact c2, L1, by have := sz0; have := d6.size; omega⟩
          · first | omega | (simp only []; omega)
      · refine WC.condN rfl (decide_eq_false c1) ?_
        refine WC.exit ?_
        refine E.thenX ?_
        refine E.thenX ?_
        refine E.blkH ?_
        refine E.thenN ?_
        refine WC.seq ?_
        refine WC.region ?_
        refine W.any (.assign rfl) rfl rfl rfl ?_
        refine W.nil ?_
        refine E.thenN ?_
        refine WC.ret ?_
        refine E.retG1 rfl rfl ?_
        exact ⟨congrArg (fun b => Ending.returned (Value.bool b)) (decide_eq_true (ext_getD (by omega) (fun j hj => hz j (by omega)))).symm, Ll0⟩

theorem allhops_ok {A B : Option Addr} {n c m d : Nat} {xs ys : List (Hop)} (w : World) (hV : Vec w hopV 6 A n xs) (hU : Vec w hopV 6 B m ys) (hn : n ≤ 1000000) : Calls Try.prog 38 #[.slice A n c, .slice B m d] w fun r w' => r = .returned (.bool (decide (xs = ys))) ∧ Le w w' := by
  have hl := hV.1
  have hm := hU.1
  refine enter Try.func38 rfl rfl ?_
  have L0 := Le.refl w
  refine WC.seq ?_
  refine WC.region ?_
  refine W.any (.assign rfl) rfl rfl rfl ?_
  refine W.nil ?_
  refine E.thenN ?_
  refine WC.seq ?_
  refine WC.seq ?_
  refine WC.region ?_
  refine W.any (.move rfl) rfl rfl rfl ?_
  refine W.rd (.len Try.underlying66 rfl) rfl rfl rfl ?_
  refine W.any (.move rfl) rfl rfl rfl ?_
  refine W.rd (.len Try.underlying66 rfl) rfl rfl rfl ?_
  refine W.any (.neq rfl rfl) rfl rfl rfl ?_
  refine W.nil ?_
  refine E.thenN ?_
  by_cases c0 : ((n : Nat) : Int) ≠ ((m : Nat) : Int)
  · refine WC.condY rfl (decide_eq_true c0) ?_
    refine WC.seq ?_
    refine WC.region ?_
    refine W.any (.assign rfl) rfl rfl rfl ?_
    refine W.nil ?_
    refine E.thenN ?_
    refine WC.ret ?_
    refine E.thenR ?_
    refine E.retG1 rfl rfl ?_
    exact ⟨congrArg (fun b => Ending.returned (Value.bool b)) (decide_eq_false (fun h => by subst h; first | omega | exact absurd rfl (by assumption))).symm, L0⟩
  · refine WC.condN rfl (decide_eq_false c0) ?_
    refine WC.skip ?_
    refine E.thenN ?_
    refine WC.seq ?_
    refine WC.seq ?_
    refine WC.region ?_
    refine W.any (.assign rfl) rfl rfl rfl ?_
    refine W.nil ?_
    refine E.thenN ?_
    refine WC.block ?_
    refine WC.loop (ι := Nat) (fun k => [(0, .slice A n c), (1, .slice B m d), (5, .int .i64 (((k : Nat) : Int)))]) (fun k wl0 => (k ≤ n) ∧ (∀ j, j < k → xs.getD j noHop = ys.getD j noHop) ∧ Le w wl0 ∧ w.heap.size ≤ wl0.heap.size) (fun k => n - k) 0 ?_ ?_ ?_
    · exact .cons rfl (.cons rfl (.cons rfl (.nil _)))
    · exact ⟨Nat.zero_le _, fun j hj => absurd hj (Nat.not_lt_zero _), L0, Nat.le_refl _⟩
    · rintro k wl0 ⟨hk, hz, Ll0, sz0⟩
      refine WC.seq ?_
      refine WC.seq ?_
      refine WC.region ?_
      refine W.any (.move rfl) rfl rfl rfl ?_
      refine W.any (.move rfl) rfl rfl rfl ?_
      refine W.rd (.len Try.underlying66 rfl) rfl rfl rfl ?_
      refine W.any (.lss rfl rfl) rfl rfl rfl ?_
      refine W.nil ?_
      refine E.thenN ?_
      by_cases c1 : ((k : Nat) : Int) < ((n : Nat) : Int)
      · refine WC.condY rfl (decide_eq_true c1) ?_
        refine WC.skip ?_
        refine E.thenN ?_
        refine WC.seq ?_
        refine WC.block ?_
        refine WC.seq ?_
        refine WC.draw [0, 1, 2, 3, 4, 5, 6, 7, 8] mixed (by kernel_rfl) ?_
        intro w6 d6
        have L1 := Ll0.trans d6
        refine G.any rfl rfl (.move rfl) rfl rfl rfl ?_
        refine G.any rfl rfl (.move rfl) rfl rfl rfl ?_
        refine G.any rfl rfl (.idxS (k) Try.underlying66 sz95 rfl rfl (hV.isSome hopV_row (by omega)) (rfl) (by omega)) rfl rfl rfl ?_
        refine G.rd rfl rfl (.vload ag95 rfl (hV.le L1) hopV_row (getS xs noHop (by first | omega | (simp only [List.length_cons, List.length_nil]; omega)))) rfl rfl rfl ?_
        refine G.any rfl rfl (.move rfl) rfl rfl rfl ?_
        refine G.any rfl rfl (.move rfl) rfl rfl rfl ?_
        refine G.any rfl rfl (.idxS (k) Try.underlying66 sz95 rfl rfl (hU.isSome hopV_row (by omega)) (rfl) (by omega)) rfl rfl rfl ?_
        refine G.rd rfl rfl (.vload ag95 rfl (hU.le L1) hopV_row (getS ys noHop (by first | omega | (simp only [List.length_cons, List.length_nil]; omega)))) rfl rfl rfl ?_
        refine G.any rfl rfl (.neA eg95 rfl rfl (eqv_hop (d := 9998) _ _)) rfl rfl rfl ?_
        refine G.nil ?_
        refine E.thenN ?_
        by_cases c2 : (xs.getD k noHop) = (ys.getD k noHop)
        · refine WC.condN rfl (congrArg not (decide_eq_true c2)) ?_
          refine WC.skip ?_
          refine E.blkN ?_
          refine E.thenN ?_
          refine WC.region ?_
          refine W.any (.move rfl) rfl rfl rfl ?_
          refine W.any (.add rfl rfl (by omega)) rfl rfl rfl ?_
          refine W.any (.assign rfl) rfl rfl rfl ?_
          refine W.nil ?_
          refine E.again (k + 1) (.cons rfl (.cons rfl (.cons rfl (.nil _)))) ?_ ?_
          · exact ⟨by omega, fun j hj => by rcases Nat.lt_or_ge j k with h | h; exact hz j h; rw [show j = k by omega]; first | exact Decidable.not_not.1 c2 | exact c2, L1, by have := sz0; have := d6.size; omega⟩
          · first | omega | (simp only []; omega)
        · refine WC.condY rfl (congrArg not (decide_eq_false c2)) ?_
          refine WC.seq ?_
          refine WC.region ?_
          refine W.any (.assign rfl) rfl rfl rfl ?_
          refine W.nil ?_
          refine E.thenN ?_
          refine WC.ret ?_
          refine E.blkR ?_
          refine E.thenR ?_
          refine E.thenR ?_
          refine E.blkR ?_
          refine E.thenR ?_
          refine E.retG1 rfl rfl ?_
          exact ⟨congrArg (fun b => Ending.returned (Value.bool b)) (decide_eq_false (fun h => by subst h; first | omega | exact absurd rfl (by assumption))).symm, L1⟩
      · refine WC.condN rfl (decide_eq_false c1) ?_
        refine WC.exit ?_
        refine E.thenX ?_
        refine E.thenX ?_
        refine E.blkH ?_
        refine E.thenN ?_
        refine WC.seq ?_
        refine WC.region ?_
        refine W.any (.assign rfl) rfl rfl rfl ?_
        refine W.nil ?_
        refine E.thenN ?_
        refine WC.ret ?_
        refine E.retG1 rfl rfl ?_
        exact ⟨congrArg (fun b => Ending.returned (Value.bool b)) (decide_eq_true (ext_getD (by omega) (fun j hj => hz j (by omega)))).symm, Ll0⟩

theorem same_ok {A B : Option Addr} {n c m d : Nat} {xs ys : List (Gsp.Edge)} (w : World) (hV : Vec w edgeV 9 A n xs) (hU : Vec w edgeV 9 B m ys) (hn : n ≤ 1000000) : Calls Try.prog 47 #[.slice A n c, .slice B m d] w fun r w' => r = .returned (.bool (decide (xs = ys))) ∧ Le w w' := by
  have hl := hV.1
  have hm := hU.1
  refine enter Try.func47 rfl rfl ?_
  have L0 := Le.refl w
  refine WC.seq ?_
  refine WC.region ?_
  refine W.any (.assign rfl) rfl rfl rfl ?_
  refine W.nil ?_
  refine E.thenN ?_
  refine WC.seq ?_
  refine WC.seq ?_
  refine WC.region ?_
  refine W.any (.move rfl) rfl rfl rfl ?_
  refine W.rd (.len Try.underlying59 rfl) rfl rfl rfl ?_
  refine W.any (.move rfl) rfl rfl rfl ?_
  refine W.rd (.len Try.underlying59 rfl) rfl rfl rfl ?_
  refine W.any (.neq rfl rfl) rfl rfl rfl ?_
  refine W.nil ?_
  refine E.thenN ?_
  by_cases c0 : ((n : Nat) : Int) ≠ ((m : Nat) : Int)
  · refine WC.condY rfl (decide_eq_true c0) ?_
    refine WC.seq ?_
    refine WC.region ?_
    refine W.any (.assign rfl) rfl rfl rfl ?_
    refine W.nil ?_
    refine E.thenN ?_
    refine WC.ret ?_
    refine E.thenR ?_
    refine E.retG1 rfl rfl ?_
    exact ⟨congrArg (fun b => Ending.returned (Value.bool b)) (decide_eq_false (fun h => by subst h; first | omega | exact absurd rfl (by assumption))).symm, L0⟩
  · refine WC.condN rfl (decide_eq_false c0) ?_
    refine WC.skip ?_
    refine E.thenN ?_
    refine WC.seq ?_
    refine WC.seq ?_
    refine WC.region ?_
    refine W.any (.assign rfl) rfl rfl rfl ?_
    refine W.nil ?_
    refine E.thenN ?_
    refine WC.block ?_
    refine WC.loop (ι := Nat) (fun k => [(0, .slice A n c), (1, .slice B m d), (5, .int .i64 (((k : Nat) : Int)))]) (fun k wl0 => (k ≤ n) ∧ (∀ j, j < k → xs.getD j noEdge = ys.getD j noEdge) ∧ Le w wl0 ∧ w.heap.size ≤ wl0.heap.size) (fun k => n - k) 0 ?_ ?_ ?_
    · exact .cons rfl (.cons rfl (.cons rfl (.nil _)))
    · exact ⟨Nat.zero_le _, fun j hj => absurd hj (Nat.not_lt_zero _), L0, Nat.le_refl _⟩
    · rintro k wl0 ⟨hk, hz, Ll0, sz0⟩
      refine WC.seq ?_
      refine WC.seq ?_
      refine WC.region ?_
      refine W.any (.move rfl) rfl rfl rfl ?_
      refine W.any (.move rfl) rfl rfl rfl ?_
      refine W.rd (.len Try.underlying59 rfl) rfl rfl rfl ?_
      refine W.any (.lss rfl rfl) rfl rfl rfl ?_
      refine W.nil ?_
      refine E.thenN ?_
      by_cases c1 : ((k : Nat) : Int) < ((n : Nat) : Int)
      · refine WC.condY rfl (decide_eq_true c1) ?_
        refine WC.skip ?_
        refine E.thenN ?_
        refine WC.seq ?_
        refine WC.block ?_
        refine WC.seq ?_
        refine WC.draw [0, 1, 2, 3, 4, 5, 6, 7, 8] mixed (by kernel_rfl) ?_
        intro w6 d6
        have L1 := Ll0.trans d6
        refine G.any rfl rfl (.move rfl) rfl rfl rfl ?_
        refine G.any rfl rfl (.move rfl) rfl rfl rfl ?_
        refine G.any rfl rfl (.idxS (k) Try.underlying59 sz76 rfl rfl (hV.isSome edgeV_row (by omega)) (rfl) (by omega)) rfl rfl rfl ?_
        refine G.rd rfl rfl (.vload ag76 rfl (hV.le L1) edgeV_row (getS xs noEdge (by first | omega | (simp only [List.length_cons, List.length_nil]; omega)))) rfl rfl rfl ?_
        refine G.any rfl rfl (.move rfl) rfl rfl rfl ?_
        refine G.any rfl rfl (.move rfl) rfl rfl rfl ?_
        refine G.any rfl rfl (.idxS (k) Try.underlying59 sz76 rfl rfl (hU.isSome edgeV_row (by omega)) (rfl) (by omega)) rfl rfl rfl ?_
        refine G.rd rfl rfl (.vload ag76 rfl (hU.le L1) edgeV_row (getS ys noEdge (by first | omega | (simp only [List.length_cons, List.length_nil]; omega)))) rfl rfl rfl ?_
        refine G.any rfl rfl (.neA eg76 rfl rfl (eqv_edge (d := 9997) _ _)) rfl rfl rfl ?_
        refine G.nil ?_
        refine E.thenN ?_
        by_cases c2 : (xs.getD k noEdge) = (ys.getD k noEdge)
        · refine WC.condN rfl (congrArg not (decide_eq_true c2)) ?_
          refine WC.skip ?_
          refine E.blkN ?_
          refine E.thenN ?_
          refine WC.region ?_
          refine W.any (.move rfl) rfl rfl rfl ?_
          refine W.any (.add rfl rfl (by omega)) rfl rfl rfl ?_
          refine W.any (.assign rfl) rfl rfl rfl ?_
          refine W.nil ?_
          refine E.again (k + 1) (.cons rfl (.cons rfl (.cons rfl (.nil _)))) ?_ ?_
          · exact ⟨by omega, fun j hj => by rcases Nat.lt_or_ge j k with h | h; exact hz j h; rw [show j = k by omega]; first | exact Decidable.not_not.1 c2 | exact c2, L1, by have := sz0; have := d6.size; omega⟩
          · first | omega | (simp only []; omega)
        · refine WC.condY rfl (congrArg not (decide_eq_false c2)) ?_
          refine WC.seq ?_
          refine WC.region ?_
          refine W.any (.assign rfl) rfl rfl rfl ?_
          refine W.nil ?_
          refine E.thenN ?_
          refine WC.ret ?_
          refine E.blkR ?_
          refine E.thenR ?_
          refine E.thenR ?_
          refine E.blkR ?_
          refine E.thenR ?_
          refine E.retG1 rfl rfl ?_
          exact ⟨congrArg (fun b => Ending.returned (Value.bool b)) (decide_eq_false (fun h => by subst h; first | omega | exact absurd rfl (by assumption))).symm, L1⟩
      · refine WC.condN rfl (decide_eq_false c1) ?_
        refine WC.exit ?_
        refine E.thenX ?_
        refine E.thenX ?_
        refine E.blkH ?_
        refine E.thenN ?_
        refine WC.seq ?_
        refine WC.region ?_
        refine W.any (.assign rfl) rfl rfl rfl ?_
        refine W.nil ?_
        refine E.thenN ?_
        refine WC.ret ?_
        refine E.retG1 rfl rfl ?_
        exact ⟨congrArg (fun b => Ending.returned (Value.bool b)) (decide_eq_true (ext_getD (by omega) (fun j hj => hz j (by omega)))).symm, Ll0⟩
end Go.Proofs.Ytfgakofjkldcjaa
