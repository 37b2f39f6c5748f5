/- Coins (layer 1: coins, Add, part, Part at millionths), policies and fees (layer 33: in, Right, Fee), edges (layer 36: in, edge, order), walked. -/
import Derived.Test.YtfgakofjkldcjaaSxv
import Derived.Test.YtfgakofjkldcjaaBits2
import Derived.Test.YtfgakofjkldcjaaOnion2
import Derived.Test.YtfgakofjkldcjaaGsp
namespace Go.Proofs.Ytfgakofjkldcjaa
open Go Go.Sx Go.Hsp Go.Num Go.Osp Go.Gsp
set_option maxRecDepth 20000
set_option linter.unusedVariables false
set_option linter.unusedSimpArgs false
def iv (x : Int) : List Value := [.int .i64 x]
theorem iv_row : RowF iv 1 := ⟨fun _ => rfl, fun x v hv => by simp [iv] at hv; subst hv; rfl, by decide⟩
def pv1 (x : Nat) : List Value := [pv x]
theorem pv1_row : RowF pv1 1 := ⟨fun _ => rfl, fun x v hv => by simp [pv1] at hv; subst hv; rfl, by decide⟩
def polV (p : Pol) : List Value := [.int .i64 p.b, .int .i64 p.p, .int .i64 p.d, .int .i64 p.l, .int .i64 p.m]
theorem polV_row : RowF polV 5 := ⟨fun _ => rfl, fun x v hv => by simp [polV] at hv; rcases hv with rfl | rfl | rfl | rfl | rfl <;> rfl, by decide⟩
def edgeV (e : Gsp.Edge) : List Value := [.int .i64 e.f, .int .i64 e.t, .int .i64 e.c, .int .i64 e.r, .int .i64 e.pol.b, .int .i64 e.pol.p, .int .i64 e.pol.d, .int .i64 e.pol.l, .int .i64 e.pol.m]
theorem edgeV_row : RowF edgeV 9 := ⟨fun _ => rfl, fun x v hv => by simp [edgeV] at hv; rcases hv with rfl | rfl | rfl | rfl | rfl | rfl | rfl | rfl | rfl <;> rfl, by decide⟩
theorem hopV_row : RowF hopV 6 := ⟨fun _ => rfl, hopV_one, by decide⟩
theorem partC_nat (an nn : Nat) : partC an nn = if an ≤ 1125899906842624 ∧ an * nn / 1000000 ≤ 1125899906842624 then (((an * nn / 1000000 : Nat) : Int), true) else (0, false) := by
  have e : (an : Int) * (nn : Int) / 1000000 = ((an * nn / 1000000 : Nat) : Int) := by rw [Int.natCast_ediv, Int.natCast_mul]; rfl
  unfold partC
  rw [e]
  by_cases h : an ≤ 1125899906842624 ∧ an * nn / 1000000 ≤ 1125899906842624
  · rw [if_pos h, if_pos (by simp [coinB, inB]; omega)]
  · rw [if_neg h, if_neg (by simp [coinB, inB]; omega)]
/-- The first number that is not nought. -/
def orL : List Int → Int
  | [] => 0
  | x :: l => if x ≠ 0 then x else orL l
theorem orL_skip : ∀ (l : List Int) (k : Nat), (∀ j, j < k → l.getD j 0 = 0) → orL l = orL (l.drop k)
  | _, 0, _ => rfl
  | [], k + 1, _ => by simp
  | x :: l, k + 1, h => by
    have h0 : x = 0 := h 0 (by omega)
    rw [orL, if_neg (by simp [h0]), List.drop_succ_cons]
    exact orL_skip l k (fun j hj => h (j + 1) (by omega))
theorem gin_ok (n lo hi : Int) (w : World) : Calls Try.prog 74 #[.int .i64 (n), .int .i64 (lo), .int .i64 (hi)] w fun r w' => r = .returned (.bool (inB n lo hi)) ∧ Le w w' := by
  refine enter Try.func74 rfl rfl ?_
  have L0 := Le.refl w
  refine WC.seq ?_
  refine WC.region ?_
  refine W.any (.assign rfl) rfl rfl rfl ?_
  refine W.nil ?_
  refine E.thenN ?_
  refine WC.seq ?_
  refine WC.region ?_
  refine W.any (.move rfl) rfl rfl rfl ?_
  refine W.any (.move rfl) rfl rfl rfl ?_
  refine W.any (.geq rfl rfl) rfl rfl rfl ?_
  by_cases q1_3 : lo ≤ n
  · refine W.any (.dec (.move rfl) (decide_eq_true q1_3)) rfl rfl rfl ?_
    refine W.rdg (Any.rd (.move rfl) _) rfl rfl rfl (rfl) rfl rfl ?_
    refine W.rdg (Any.rd (.move rfl) _) rfl rfl rfl (rfl) rfl rfl ?_
    refine W.rdg (Any.rd (.leq rfl rfl) _) rfl rfl rfl (rfl) rfl rfl ?_
    refine W.any (.pickT rfl rfl rfl) rfl rfl rfl ?_
    refine W.any (.assign rfl) rfl rfl rfl ?_
    refine W.nil ?_
    refine E.thenN ?_
    refine WC.ret ?_
    refine E.retG1 rfl rfl ?_
    exact ⟨congrArg (fun b => Ending.returned (Value.bool b)) (by simp [inB, q1_3]), L0⟩
  · refine W.any (.dec (.move rfl) (decide_eq_false q1_3)) rfl rfl rfl ?_
    refine W.skip rfl rfl rfl (rfl) rfl rfl ?_
    refine W.skip rfl rfl rfl (rfl) rfl rfl ?_
    refine W.skip rfl rfl rfl (rfl) rfl rfl ?_
    refine W.any (.pickF rfl rfl rfl) rfl rfl rfl ?_
    refine W.any (.assign rfl) rfl rfl rfl ?_
    refine W.nil ?_
    refine E.thenN ?_
    refine WC.ret ?_
    refine E.retG1 rfl rfl ?_
    exact ⟨congrArg (fun b => Ending.returned (Value.bool b)) (by simp [inB, q1_3]), L0⟩

theorem hin_ok (n lo hi : Int) (w : World) : Calls Try.prog 98 #[.int .i64 (n), .int .i64 (lo), .int .i64 (hi)] w fun r w' => r = .returned (.bool (inB n lo hi)) ∧ Le w w' := by
  refine enter Try.func98 rfl rfl ?_
  have L0 := Le.refl w
  refine WC.seq ?_
  refine WC.region ?_
  refine W.any (.assign rfl) rfl rfl rfl ?_
  refine W.nil ?_
  refine E.thenN ?_
  refine WC.seq ?_
  refine WC.region ?_
  refine W.any (.move rfl) rfl rfl rfl ?_
  refine W.any (.move rfl) rfl rfl rfl ?_
  refine W.any (.geq rfl rfl) rfl rfl rfl ?_
  by_cases q1_3 : lo ≤ n
  · refine W.any (.dec (.move rfl) (decide_eq_true q1_3)) rfl rfl rfl ?_
    refine W.rdg (Any.rd (.move rfl) _) rfl rfl rfl (rfl) rfl rfl ?_
    refine W.rdg (Any.rd (.move rfl) _) rfl rfl rfl (rfl) rfl rfl ?_
    refine W.rdg (Any.rd (.leq rfl rfl) _) rfl rfl rfl (rfl) rfl rfl ?_
    refine W.any (.pickT rfl rfl rfl) rfl rfl rfl ?_
    refine W.any (.assign rfl) rfl rfl rfl ?_
    refine W.nil ?_
    refine E.thenN ?_
    refine WC.ret ?_
    refine E.retG1 rfl rfl ?_
    exact ⟨congrArg (fun b => Ending.returned (Value.bool b)) (by simp [inB, q1_3]), L0⟩
  · refine W.any (.dec (.move rfl) (decide_eq_false q1_3)) rfl rfl rfl ?_
    refine W.skip rfl rfl rfl (rfl) rfl rfl ?_
    refine W.skip rfl rfl rfl (rfl) rfl rfl ?_
    refine W.skip rfl rfl rfl (rfl) rfl rfl ?_
    refine W.any (.pickF rfl rfl rfl) rfl rfl rfl ?_
    refine W.any (.assign rfl) rfl rfl rfl ?_
    refine W.nil ?_
    refine E.thenN ?_
    refine WC.ret ?_
    refine E.retG1 rfl rfl ?_
    exact ⟨congrArg (fun b => Ending.returned (Value.bool b)) (by simp [inB, q1_3]), L0⟩

theorem coins_ok (a : Int) (w : World) : Calls Try.prog 129 #[.int .i64 (a)] w fun r w' => r = .returned (.bool (coinB a)) ∧ Le w w' := by
  refine enter Try.func129 rfl rfl ?_
  have L0 := Le.refl w
  refine WC.seq ?_
  refine WC.region ?_
  refine W.any (.assign rfl) rfl rfl rfl ?_
  refine W.nil ?_
  refine E.thenN ?_
  refine WC.seq ?_
  refine WC.region ?_
  refine W.any (.move rfl) rfl rfl rfl ?_
  refine W.any (.geq rfl rfl) rfl rfl rfl ?_
  by_cases q1_2 : 0 ≤ a
  · refine W.any (.dec (.move rfl) (decide_eq_true q1_2)) rfl rfl rfl ?_
    refine W.rdg (Any.rd (.move rfl) _) rfl rfl rfl (rfl) rfl rfl ?_
    refine W.rdg (Any.rd (.leq rfl rfl) _) rfl rfl rfl (rfl) rfl rfl ?_
    refine W.any (.pickT rfl rfl rfl) rfl rfl rfl ?_
    refine W.any (.assign rfl) rfl rfl rfl ?_
    refine W.nil ?_
    refine E.thenN ?_
    refine WC.ret ?_
    refine E.retG1 rfl rfl ?_
    exact ⟨congrArg (fun b => Ending.returned (Value.bool b)) (by simp [coinB, inB, q1_2]), L0⟩
  · refine W.any (.dec (.move rfl) (decide_eq_false q1_2)) rfl rfl rfl ?_
    refine W.skip rfl rfl rfl (rfl) rfl rfl ?_
    refine W.skip rfl rfl rfl (rfl) rfl rfl ?_
    refine W.any (.pickF rfl rfl rfl) rfl rfl rfl ?_
    refine W.any (.assign rfl) rfl rfl rfl ?_
    refine W.nil ?_
    refine E.thenN ?_
    refine WC.ret ?_
    refine E.retG1 rfl rfl ?_
    exact ⟨congrArg (fun b => Ending.returned (Value.bool b)) (by simp [coinB, inB, q1_2]), L0⟩

theorem nadd_ok (a b : Int) (w : World) : Calls Try.prog 75 #[.int .i64 (a), .int .i64 (b)] w fun r w' => r = .returned (.tuple #[.int .i64 (addC a b).1, .bool (addC a b).2]) ∧ Le w w' := by
  refine enter Try.func75 rfl rfl ?_
  have L0 := Le.refl w
  refine WC.seq ?_
  refine WC.region ?_
  refine W.any (.assign rfl) rfl rfl rfl ?_
  refine W.any (.assign rfl) rfl rfl rfl ?_
  refine W.nil ?_
  refine E.thenN ?_
  refine WC.seq ?_
  refine WC.seq ?_
  refine WC.region ?_
  refine W.any (.move rfl) rfl rfl rfl ?_
  refine W.ef rfl rfl rfl ?_
  refine Ef.call go129 rfl rfl (coins_ok a w) ?_
  rintro _ w1_1 ⟨rfl, h1_1⟩
  refine ⟨_, rfl, ?_⟩
  have L1 := L0.trans h1_1
  refine W.any (.not rfl) rfl rfl rfl ?_
  by_cases q1_3 : coinB a = true
  · refine W.any (.dec (.move rfl) (congrArg not (q1_3))) rfl rfl rfl ?_
    refine W.rdg (Any.rd (.move rfl) _) rfl rfl rfl (rfl) rfl rfl ?_
    refine W.efg rfl rfl rfl (rfl) rfl rfl ?_
    refine Ef.call go129 rfl rfl (coins_ok b w1_1) ?_
    rintro _ w1_5 ⟨rfl, h1_5⟩
    refine ⟨_, rfl, ?_⟩
    have L2 := L1.trans h1_5
    refine W.rdg (Any.rd (.not rfl) _) rfl rfl rfl (rfl) rfl rfl ?_
    refine W.any (.pickF rfl rfl rfl) rfl rfl rfl ?_
    by_cases q1_8 : coinB b = true
    · refine W.any (.dec (.move rfl) (congrArg not (q1_8))) rfl rfl rfl ?_
      refine W.rdg (Any.rd (.move rfl) _) rfl rfl rfl (rfl) rfl rfl ?_
      refine W.rdg (Any.rd (.move rfl) _) rfl rfl rfl (rfl) rfl rfl ?_
      have hb1 := inB_T (show inB b 0 1125899906842624 = true by assumption)
      refine W.rdg (Any.rd (.sub rfl rfl (by omega)) _) rfl rfl rfl (rfl) rfl rfl ?_
      refine W.rdg (Any.rd (.gtr rfl rfl) _) rfl rfl rfl (rfl) rfl rfl ?_
      refine W.any (.pickF rfl rfl rfl) rfl rfl rfl ?_
      refine W.nil ?_
      refine E.thenN ?_
      by_cases c0 : (1125899906842624 - b) < a
      · refine WC.condY rfl (decide_eq_true c0) ?_
        refine WC.seq ?_
        refine WC.region ?_
        refine W.any (.assign rfl) rfl rfl rfl ?_
        refine W.any (.assign rfl) rfl rfl rfl ?_
        refine W.nil ?_
        refine E.thenN ?_
        refine WC.ret ?_
        refine E.thenR ?_
        refine E.retG2 rfl rfl rfl ?_
        exact ⟨(by first | rfl | (simp [addC, q1_3, q1_8, c0]; done) | (simp [addC, q1_3, q1_8, c0]; omega) | (simp [addC, q1_3, q1_8, c0]; split <;> first | (exfalso; omega) | (simp; done) | (simp; omega))), L2⟩
      · refine WC.condN rfl (decide_eq_false c0) ?_
        refine WC.skip ?_
        refine E.thenN ?_
        refine WC.seq ?_
        refine WC.region ?_
        refine W.any (.move rfl) rfl rfl rfl ?_
        refine W.any (.move rfl) rfl rfl rfl ?_
        refine W.any (.add rfl rfl (by have := inB_T (show inB a 0 1125899906842624 = true by assumption); have := inB_T (show inB b 0 1125899906842624 = true by assumption); omega)) rfl rfl rfl ?_
        refine W.any (.assign rfl) rfl rfl rfl ?_
        refine W.any (.assign rfl) rfl rfl rfl ?_
        refine W.nil ?_
        refine E.thenN ?_
        refine WC.ret ?_
        refine E.retG2 rfl rfl rfl ?_
        exact ⟨(by first | rfl | (simp [addC, q1_3, q1_8, c0]; done) | (simp [addC, q1_3, q1_8, c0]; omega) | (simp [addC, q1_3, q1_8, c0]; split <;> first | (exfalso; omega) | (simp; done) | (simp; omega))), L2⟩
    · refine W.any (.dec (.move rfl) (congrArg not ((Bool.eq_false_iff.2 q1_8)))) rfl rfl rfl ?_
      refine W.skip rfl rfl rfl (rfl) rfl rfl ?_
      refine W.skip rfl rfl rfl (rfl) rfl rfl ?_
      refine W.skip rfl rfl rfl (rfl) rfl rfl ?_
      refine W.skip rfl rfl rfl (rfl) rfl rfl ?_
      refine W.any (.pickT rfl rfl rfl) rfl rfl rfl ?_
      refine W.nil ?_
      refine E.thenN ?_
      refine WC.condT rfl ?_
      refine WC.seq ?_
      refine WC.region ?_
      refine W.any (.assign rfl) rfl rfl rfl ?_
      refine W.any (.assign rfl) rfl rfl rfl ?_
      refine W.nil ?_
      refine E.thenN ?_
      refine WC.ret ?_
      refine E.thenR ?_
      refine E.retG2 rfl rfl rfl ?_
      exact ⟨(by first | rfl | (simp [addC, q1_3, q1_8]; done) | (simp [addC, q1_3, q1_8]; omega) | (simp [addC, q1_3, q1_8]; split <;> first | (exfalso; omega) | (simp; done) | (simp; omega))), L2⟩
  · refine W.any (.dec (.move rfl) (congrArg not ((Bool.eq_false_iff.2 q1_3)))) rfl rfl rfl ?_
    refine W.skip rfl rfl rfl (rfl) rfl rfl ?_
    refine W.skip rfl rfl rfl (rfl) rfl rfl ?_
    refine W.skip rfl rfl rfl (rfl) rfl rfl ?_
    refine W.any (.pickT rfl rfl rfl) rfl rfl rfl ?_
    refine W.any (.move rfl) rfl rfl rfl ?_
    refine W.skip rfl rfl rfl (rfl) rfl rfl ?_
    refine W.skip rfl rfl rfl (rfl) rfl rfl ?_
    refine W.skip rfl rfl rfl (rfl) rfl rfl ?_
    refine W.skip rfl rfl rfl (rfl) rfl rfl ?_
    refine W.any (.pickT rfl rfl rfl) rfl rfl rfl ?_
    refine W.nil ?_
    refine E.thenN ?_
    refine WC.condT rfl ?_
    refine WC.seq ?_
    refine WC.region ?_
    refine W.any (.assign rfl) rfl rfl rfl ?_
    refine W.any (.assign rfl) rfl rfl rfl ?_
    refine W.nil ?_
    refine E.thenN ?_
    refine WC.ret ?_
    refine E.thenR ?_
    refine E.retG2 rfl rfl rfl ?_
    exact ⟨(by first | rfl | (simp [addC, q1_3]; done) | (simp [addC, q1_3]; omega) | (simp [addC, q1_3]; split <;> first | (exfalso; omega) | (simp; done) | (simp; omega))), L1⟩

theorem npart0_ok (a num : Int) (hn : num ≤ 9223372036854775807) (w : World) : Calls Try.prog 134 #[.int .i64 (a), .int .i64 (num), .int .i64 (1000000)] w fun r w' => ∃ b : Bool, r = .returned (.tuple #[.int .i64 (partC a num).1, .bool b, .bool (partC a num).2]) ∧ Le w w' := by
  refine enter Try.func134 rfl rfl ?_
  have L0 := Le.refl w
  refine WC.seq ?_
  refine WC.region ?_
  refine W.any (.assign rfl) rfl rfl rfl ?_
  refine W.any (.assign rfl) rfl rfl rfl ?_
  refine W.any (.assign rfl) rfl rfl rfl ?_
  refine W.nil ?_
  refine E.thenN ?_
  refine WC.seq ?_
  refine WC.seq ?_
  refine WC.region ?_
  refine W.any (.move rfl) rfl rfl rfl ?_
  refine W.ef rfl rfl rfl ?_
  refine Ef.call go129 rfl rfl (coins_ok a w) ?_
  rintro _ w1_1 ⟨rfl, h1_1⟩
  refine ⟨_, rfl, ?_⟩
  have L1 := L0.trans h1_1
  refine W.any (.not rfl) rfl rfl rfl ?_
  by_cases q1_3 : coinB a = true
  · refine W.any (.dec (.move rfl) (congrArg not (q1_3))) rfl rfl rfl ?_
    refine W.rdg (Any.rd (.move rfl) _) rfl rfl rfl (rfl) rfl rfl ?_
    refine W.rdg (Any.rd (.lss rfl rfl) _) rfl rfl rfl (rfl) rfl rfl ?_
    refine W.any (.pickF rfl rfl rfl) rfl rfl rfl ?_
    by_cases q1_7 : num < 0
    · refine W.any (.dec (.move rfl) (decide_eq_true q1_7)) rfl rfl rfl ?_
      refine W.skip rfl rfl rfl (rfl) rfl rfl ?_
      refine W.skip rfl rfl rfl (rfl) rfl rfl ?_
      refine W.any (.pickT rfl rfl rfl) rfl rfl rfl ?_
      refine W.nil ?_
      refine E.thenN ?_
      refine WC.condT rfl ?_
      refine WC.seq ?_
      refine WC.region ?_
      refine W.any (.assign rfl) rfl rfl rfl ?_
      refine W.any (.assign rfl) rfl rfl rfl ?_
      refine W.any (.assign rfl) rfl rfl rfl ?_
      refine W.nil ?_
      refine E.thenN ?_
      refine WC.ret ?_
      refine E.thenR ?_
      refine E.retG3 rfl rfl rfl rfl ?_
      exact ⟨false, (by first | rfl | (simp [partC, q1_3, q1_7]; done) | (simp [partC, q1_3, q1_7]; omega) | (simp [partC, q1_3, q1_7]; split <;> first | (exfalso; omega) | (simp; done) | (simp; omega))), L1⟩
    · refine W.any (.dec (.move rfl) (decide_eq_false q1_7)) rfl rfl rfl ?_
      refine W.rdg (Any.rd (.move rfl) _) rfl rfl rfl (rfl) rfl rfl ?_
      refine W.rdg (Any.rd (.dec (.lss rfl rfl) (show _ = false from by decide)) _) rfl rfl rfl (rfl) rfl rfl ?_
      refine W.any (.pickF rfl rfl rfl) rfl rfl rfl ?_
      refine W.nil ?_
      refine E.thenN ?_
      refine WC.condF rfl ?_
      refine WC.skip ?_
      refine E.thenN ?_
      refine WC.seq ?_
      refine WC.region ?_
      refine W.any (.move rfl) rfl rfl rfl ?_
      have ha := inB_T (show inB a 0 1125899906842624 = true by assumption)
      obtain ⟨an, rfl⟩ := Int.eq_ofNat_of_zero_le ha.1
      obtain ⟨nn, rfl⟩ := Int.eq_ofNat_of_zero_le (show 0 ≤ num by omega)
      refine W.rd (.idI (isS Try.underlying3) Try.underlying29 rfl (IntWalk.u64_in _ (by omega))) rfl rfl rfl ?_
      refine W.any (.move rfl) rfl rfl rfl ?_
      refine W.rd (.idI (isS Try.underlying3) Try.underlying29 rfl (IntWalk.u64_in _ (by omega))) rfl rfl rfl ?_
      refine W.ef rfl rfl rfl ?_
      refine Ef.call go157 rfl rfl (mul64_ok an nn (by omega) (by omega) w1_1) ?_
      rintro _ w3_4 ⟨rfl, h3_4⟩
      refine ⟨_, rfl, ?_⟩
      have L2 := L1.trans h3_4
      have hdm : an * nn / 18446744073709551616 * 18446744073709551616 + an * nn % 18446744073709551616 = an * nn := by rw [Nat.mul_comm]; exact Nat.div_add_mod _ _
      have hlo := Nat.mod_lt (an * nn) (show 0 < 18446744073709551616 by decide)
      generalize hH : an * nn / 18446744073709551616 = H at *
      generalize hLo : an * nn % 18446744073709551616 = Lo at *
      refine W.any (.move rfl) rfl rfl rfl ?_
      refine W.any (.extract (v := .int .u64 (((H : Nat) : Int))) rfl rfl) rfl rfl rfl ?_
      refine W.any (.extract (v := .int .u64 (((Lo : Nat) : Int))) rfl rfl) rfl rfl rfl ?_
      refine W.any (.assign rfl) rfl rfl rfl ?_
      refine W.any (.assign rfl) rfl rfl rfl ?_
      refine W.nil ?_
      refine E.thenN ?_
      refine WC.seq ?_
      refine WC.seq ?_
      refine WC.region ?_
      refine W.any (.move rfl) rfl rfl rfl ?_
      refine W.any (.move rfl) rfl rfl rfl ?_
      refine W.rd (.idI (isS Try.underlying3) Try.underlying29 rfl (IntWalk.u64_in _ (by omega))) rfl rfl rfl ?_
      refine W.any (.geq rfl rfl) rfl rfl rfl ?_
      refine W.nil ?_
      refine E.thenN ?_
      by_cases c1 : 1000000 ≤ ((H : Nat) : Int)
      · refine WC.condY rfl (decide_eq_true c1) ?_
        refine WC.seq ?_
        refine WC.region ?_
        refine W.any (.assign rfl) rfl rfl rfl ?_
        refine W.any (.assign rfl) rfl rfl rfl ?_
        refine W.any (.assign rfl) rfl rfl rfl ?_
        refine W.nil ?_
        refine E.thenN ?_
        refine WC.ret ?_
        refine E.thenR ?_
        refine E.retG3 rfl rfl rfl rfl ?_
        exact ⟨false, by rw [partC_nat]; first | (rw [if_neg (by omega)]; done) | (rw [if_pos (by omega), hQ]), L2⟩
      · refine WC.condN rfl (decide_eq_false c1) ?_
        refine WC.skip ?_
        refine E.thenN ?_
        refine WC.seq ?_
        refine WC.region ?_
        refine W.any (.move rfl) rfl rfl rfl ?_
        refine W.any (.move rfl) rfl rfl rfl ?_
        refine W.any (.move rfl) rfl rfl rfl ?_
        refine W.rd (.idI (isS Try.underlying3) Try.underlying29 rfl (IntWalk.u64_in _ (by omega))) rfl rfl rfl ?_
        refine W.ef rfl rfl rfl ?_
        refine Ef.call go158 rfl rfl (div64_q44 H Lo 1000000 (by decide) (by decide) (by omega) hlo w3_4) ?_
        rintro _ w6_4 ⟨rfl, h6_4⟩
        refine ⟨_, rfl, ?_⟩
        have L3 := L2.trans h6_4
        rw [hdm]
        generalize hQ : an * nn / 1000000 = Qn at *
        generalize hRm : an * nn % 1000000 = Rm at *
        refine W.any (.move rfl) rfl rfl rfl ?_
        refine W.any (.extract (v := .int .u64 (((Qn : Nat) : Int))) rfl rfl) rfl rfl rfl ?_
        refine W.any (.extract (v := .int .u64 (((Rm : Nat) : Int))) rfl rfl) rfl rfl rfl ?_
        refine W.any (.assign rfl) rfl rfl rfl ?_
        refine W.any (.assign rfl) rfl rfl rfl ?_
        refine W.nil ?_
        refine E.thenN ?_
        refine WC.seq ?_
        refine WC.seq ?_
        refine WC.region ?_
        refine W.any (.move rfl) rfl rfl rfl ?_
        refine W.any (.gtr rfl rfl) rfl rfl rfl ?_
        refine W.nil ?_
        refine E.thenN ?_
        by_cases c2 : 1125899906842624 < ((Qn : Nat) : Int)
        · refine WC.condY rfl (decide_eq_true c2) ?_
          refine WC.seq ?_
          refine WC.region ?_
          refine W.any (.assign rfl) rfl rfl rfl ?_
          refine W.any (.assign rfl) rfl rfl rfl ?_
          refine W.any (.assign rfl) rfl rfl rfl ?_
          refine W.nil ?_
          refine E.thenN ?_
          refine WC.ret ?_
          refine E.thenR ?_
          refine E.retG3 rfl rfl rfl rfl ?_
          exact ⟨false, by rw [partC_nat]; first | (rw [if_neg (by omega)]; done) | (rw [if_pos (by omega), hQ]), L3⟩
        · refine WC.condN rfl (decide_eq_false c2) ?_
          refine WC.skip ?_
          refine E.thenN ?_
          refine WC.seq ?_
          refine WC.region ?_
          refine W.any (.move rfl) rfl rfl rfl ?_
          refine W.rd (.idI (isS Try.underlying29) Try.underlying3 rfl (IntWalk.i64_in _ (by omega))) rfl rfl rfl ?_
          refine W.any (.move rfl) rfl rfl rfl ?_
          refine W.any (.gtr rfl rfl) rfl rfl rfl ?_
          refine W.any (.assign rfl) rfl rfl rfl ?_
          refine W.any (.assign rfl) rfl rfl rfl ?_
          refine W.any (.assign rfl) rfl rfl rfl ?_
          refine W.nil ?_
          refine E.thenN ?_
          refine WC.ret ?_
          refine E.retG3 rfl rfl rfl rfl ?_
          exact ⟨decide (0 < ((Rm : Nat) : Int)), by rw [partC_nat]; first | (rw [if_neg (by omega)]; done) | (rw [if_pos (by omega), hQ]), L3⟩
  · refine W.any (.dec (.move rfl) (congrArg not ((Bool.eq_false_iff.2 q1_3)))) rfl rfl rfl ?_
    refine W.skip rfl rfl rfl (rfl) rfl rfl ?_
    refine W.skip rfl rfl rfl (rfl) rfl rfl ?_
    refine W.any (.pickT rfl rfl rfl) rfl rfl rfl ?_
    refine W.any (.move rfl) rfl rfl rfl ?_
    refine W.skip rfl rfl rfl (rfl) rfl rfl ?_
    refine W.skip rfl rfl rfl (rfl) rfl rfl ?_
    refine W.any (.pickT rfl rfl rfl) rfl rfl rfl ?_
    refine W.nil ?_
    refine E.thenN ?_
    refine WC.condT rfl ?_
    refine WC.seq ?_
    refine WC.region ?_
    refine W.any (.assign rfl) rfl rfl rfl ?_
    refine W.any (.assign rfl) rfl rfl rfl ?_
    refine W.any (.assign rfl) rfl rfl rfl ?_
    refine W.nil ?_
    refine E.thenN ?_
    refine WC.ret ?_
    refine E.thenR ?_
    refine E.retG3 rfl rfl rfl rfl ?_
    exact ⟨false, by simp [partC, q1_3], L1⟩

theorem npart_ok (a num : Int) (hn : num ≤ 9223372036854775807) (w : World) : Calls Try.prog 80 #[.int .i64 (a), .int .i64 (num), .int .i64 (1000000)] w fun r w' => r = .returned (.tuple #[.int .i64 (partC a num).1, .bool (partC a num).2]) ∧ Le w w' := by
  refine enter Try.func80 rfl rfl ?_
  have L0 := Le.refl w
  refine WC.seq ?_
  refine WC.region ?_
  refine W.any (.assign rfl) rfl rfl rfl ?_
  refine W.any (.assign rfl) rfl rfl rfl ?_
  refine W.nil ?_
  refine E.thenN ?_
  refine WC.seq ?_
  refine WC.region ?_
  refine W.any (.move rfl) rfl rfl rfl ?_
  refine W.any (.move rfl) rfl rfl rfl ?_
  refine W.any (.move rfl) rfl rfl rfl ?_
  refine W.ef rfl rfl rfl ?_
  refine Ef.call go134 rfl rfl (npart0_ok a num hn w) ?_
  rintro _ w1_3 ⟨bb, rfl, h1_3⟩
  refine ⟨_, rfl, ?_⟩
  have L1 := L0.trans h1_3
  refine W.any (.move rfl) rfl rfl rfl ?_
  refine W.any (.extract (v := .int .i64 ((partC a num).1)) rfl rfl) rfl rfl rfl ?_
  refine W.any (.extract (v := .bool (bb)) rfl rfl) rfl rfl rfl ?_
  refine W.any (.extract (v := .bool ((partC a num).2)) rfl rfl) rfl rfl rfl ?_
  refine W.any (.assign rfl) rfl rfl rfl ?_
  refine W.any (.assign rfl) rfl rfl rfl ?_
  refine W.any (.assign rfl) rfl rfl rfl ?_
  refine W.nil ?_
  refine E.thenN ?_
  refine WC.seq ?_
  refine WC.region ?_
  refine W.any (.move rfl) rfl rfl rfl ?_
  refine W.any (.move rfl) rfl rfl rfl ?_
  refine W.any (.assign rfl) rfl rfl rfl ?_
  refine W.any (.assign rfl) rfl rfl rfl ?_
  refine W.nil ?_
  refine E.thenN ?_
  refine WC.ret ?_
  refine E.retG2 rfl rfl rfl ?_
  exact ⟨rfl, L1⟩

theorem hright_ok (p : Pol) (w : World) : Calls Try.prog 81 #[.agg (polV p).toArray] w fun r w' => r = .returned (.bool (polOk p)) ∧ Le w w' := by
  refine enter Try.func81 rfl rfl ?_
  have L0 := Le.refl w
  refine WC.seq ?_
  refine WC.region ?_
  refine W.ef rfl rfl rfl ?_
  refine Ef.boxA rfl ?_
  intro g0_0 w0_0 hg0_0 b0_0 h0_0
  have L1 := L0.trans h0_0
  have b0_0 : Blk w0_0 g0_0 74 (polV p).toArray := b0_0
  refine W.any (.assign rfl) rfl rfl rfl ?_
  refine W.nil ?_
  refine E.thenN ?_
  refine WC.seq ?_
  refine WC.region ?_
  refine W.any (.field0 fa74_0 rfl) rfl rfl rfl ?_
  refine W.rd (.loadB (v := .int .i64 (p.b)) na3 rfl b0_0 rfl) rfl rfl rfl ?_
  refine W.ef rfl rfl rfl ?_
  refine Ef.call go98 rfl rfl (hin_ok p.b 0 1125899906842624 w0_0) ?_
  rintro _ w1_2 ⟨rfl, h1_2⟩
  refine ⟨_, rfl, ?_⟩
  have L2 := L1.trans h1_2
  by_cases q1_3 : inB p.b 0 1125899906842624 = true
  · refine W.any (.dec (.move rfl) (q1_3)) rfl rfl rfl ?_
    refine W.rdg (Any.rd (.field0 fa74_3 rfl) _) rfl rfl rfl (rfl) rfl rfl ?_
    have f3 := (b0_0.le h1_2)
    refine W.rdg (.loadB (v := .int .i64 (p.l)) na3 rfl f3 rfl) rfl rfl rfl (rfl) rfl rfl ?_
    refine W.rdg (Any.rd (.field0 fa74_4 rfl) _) rfl rfl rfl (rfl) rfl rfl ?_
    refine W.rdg (.loadB (v := .int .i64 (p.m)) na3 rfl f3 rfl) rfl rfl rfl (rfl) rfl rfl ?_
    refine W.efg rfl rfl rfl (rfl) rfl rfl ?_
    refine Ef.call go98 rfl rfl (hin_ok p.l 0 p.m w1_2) ?_
    rintro _ w1_8 ⟨rfl, h1_8⟩
    refine ⟨_, rfl, ?_⟩
    have L4 := L2.trans h1_8
    refine W.any (.pickT rfl rfl rfl) rfl rfl rfl ?_
    by_cases q1_10 : inB p.l 0 p.m = true
    · refine W.any (.dec (.move rfl) (q1_10)) rfl rfl rfl ?_
      refine W.rdg (Any.rd (.field0 fa74_4 rfl) _) rfl rfl rfl (rfl) rfl rfl ?_
      have f5 := (f3.le h1_8)
      refine W.rdg (.loadB (v := .int .i64 (p.m)) na3 rfl f5 rfl) rfl rfl rfl (rfl) rfl rfl ?_
      refine W.efg rfl rfl rfl (rfl) rfl rfl ?_
      refine Ef.call go98 rfl rfl (hin_ok p.m 0 1125899906842624 w1_8) ?_
      rintro _ w1_13 ⟨rfl, h1_13⟩
      refine ⟨_, rfl, ?_⟩
      have L6 := L4.trans h1_13
      refine W.any (.pickT rfl rfl rfl) rfl rfl rfl ?_
      by_cases q1_15 : inB p.m 0 1125899906842624 = true
      · refine W.any (.dec (.move rfl) (q1_15)) rfl rfl rfl ?_
        refine W.rdg (Any.rd (.field0 fa74_1 rfl) _) rfl rfl rfl (rfl) rfl rfl ?_
        have f7 := (f5.le h1_13)
        refine W.rdg (.loadB (v := .int .i64 (p.p)) na3 rfl f7 rfl) rfl rfl rfl (rfl) rfl rfl ?_
        refine W.efg rfl rfl rfl (rfl) rfl rfl ?_
        refine Ef.call go98 rfl rfl (hin_ok p.p 0 1000000 w1_13) ?_
        rintro _ w1_18 ⟨rfl, h1_18⟩
        refine ⟨_, rfl, ?_⟩
        have L8 := L6.trans h1_18
        refine W.any (.pickT rfl rfl rfl) rfl rfl rfl ?_
        by_cases q1_20 : inB p.p 0 1000000 = true
        · refine W.any (.dec (.move rfl) (q1_20)) rfl rfl rfl ?_
          refine W.rdg (Any.rd (.field0 fa74_2 rfl) _) rfl rfl rfl (rfl) rfl rfl ?_
          have f9 := (f7.le h1_18)
          refine W.rdg (.loadB (v := .int .i64 (p.d)) na3 rfl f9 rfl) rfl rfl rfl (rfl) rfl rfl ?_
          refine W.efg rfl rfl rfl (rfl) rfl rfl ?_
          refine Ef.call go98 rfl rfl (hin_ok p.d 0 1048576 w1_18) ?_
          rintro _ w1_23 ⟨rfl, h1_23⟩
          refine ⟨_, rfl, ?_⟩
          have L10 := L8.trans h1_23
          refine W.any (.pickT rfl rfl rfl) rfl rfl rfl ?_
          refine W.any (.assign rfl) rfl rfl rfl ?_
          refine W.nil ?_
          refine E.thenN ?_
          refine WC.ret ?_
          refine E.retG1 rfl rfl ?_
          exact ⟨congrArg (fun b => Ending.returned (Value.bool b)) (by simp [polOk, q1_3, q1_10, q1_15, q1_20]), L10⟩
        · refine W.any (.dec (.move rfl) ((Bool.eq_false_iff.2 q1_20))) rfl rfl rfl ?_
          refine W.skip rfl rfl rfl (rfl) rfl rfl ?_
          refine W.skip rfl rfl rfl (rfl) rfl rfl ?_
          refine W.skip rfl rfl rfl (rfl) rfl rfl ?_
          refine W.any (.pickF rfl rfl rfl) rfl rfl rfl ?_
          refine W.any (.assign rfl) rfl rfl rfl ?_
          refine W.nil ?_
          refine E.thenN ?_
          refine WC.ret ?_
          refine E.retG1 rfl rfl ?_
          exact ⟨congrArg (fun b => Ending.returned (Value.bool b)) (by simp [polOk, q1_3, q1_10, q1_15, q1_20]), L8⟩
      · refine W.any (.dec (.move rfl) ((Bool.eq_false_iff.2 q1_15))) rfl rfl rfl ?_
        refine W.skip rfl rfl rfl (rfl) rfl rfl ?_
        refine W.skip rfl rfl rfl (rfl) rfl rfl ?_
        refine W.skip rfl rfl rfl (rfl) rfl rfl ?_
        refine W.any (.pickF rfl rfl rfl) rfl rfl rfl ?_
        refine W.any (.move rfl) rfl rfl rfl ?_
        refine W.skip rfl rfl rfl (rfl) rfl rfl ?_
        refine W.skip rfl rfl rfl (rfl) rfl rfl ?_
        refine W.skip rfl rfl rfl (rfl) rfl rfl ?_
        refine W.any (.pickF rfl rfl rfl) rfl rfl rfl ?_
        refine W.any (.assign rfl) rfl rfl rfl ?_
        refine W.nil ?_
        refine E.thenN ?_
        refine WC.ret ?_
        refine E.retG1 rfl rfl ?_
        exact ⟨congrArg (fun b => Ending.returned (Value.bool b)) (by simp [polOk, q1_3, q1_10, q1_15]), L6⟩
    · refine W.any (.dec (.move rfl) ((Bool.eq_false_iff.2 q1_10))) rfl rfl rfl ?_
      refine W.skip rfl rfl rfl (rfl) rfl rfl ?_
      refine W.skip rfl rfl rfl (rfl) rfl rfl ?_
      refine W.skip rfl rfl rfl (rfl) rfl rfl ?_
      refine W.any (.pickF rfl rfl rfl) rfl rfl rfl ?_
      refine W.any (.move rfl) rfl rfl rfl ?_
      refine W.skip rfl rfl rfl (rfl) rfl rfl ?_
      refine W.skip rfl rfl rfl (rfl) rfl rfl ?_
      refine W.skip rfl rfl rfl (rfl) rfl rfl ?_
      refine W.any (.pickF rfl rfl rfl) rfl rfl rfl ?_
      refine W.any (.move rfl) rfl rfl rfl ?_
      refine W.skip rfl rfl rfl (rfl) rfl rfl ?_
      refine W.skip rfl rfl rfl (rfl) rfl rfl ?_
      refine W.skip rfl rfl rfl (rfl) rfl rfl ?_
      refine W.any (.pickF rfl rfl rfl) rfl rfl rfl ?_
      refine W.any (.assign rfl) rfl rfl rfl ?_
      refine W.nil ?_
      refine E.thenN ?_
      refine WC.ret ?_
      refine E.retG1 rfl rfl ?_
      exact ⟨congrArg (fun b => Ending.returned (Value.bool b)) (by simp [polOk, q1_3, q1_10]), L4⟩
  · refine W.any (.dec (.move rfl) ((Bool.eq_false_iff.2 q1_3))) rfl rfl rfl ?_
    refine W.skip rfl rfl rfl (rfl) rfl rfl ?_
    refine W.skip rfl rfl rfl (rfl) rfl rfl ?_
    refine W.skip rfl rfl rfl (rfl) rfl rfl ?_
    refine W.skip rfl rfl rfl (rfl) rfl rfl ?_
    refine W.skip rfl rfl rfl (rfl) rfl rfl ?_
    refine W.any (.pickF rfl rfl rfl) rfl rfl rfl ?_
    refine W.any (.move rfl) rfl rfl rfl ?_
    refine W.skip rfl rfl rfl (rfl) rfl rfl ?_
    refine W.skip rfl rfl rfl (rfl) rfl rfl ?_
    refine W.skip rfl rfl rfl (rfl) rfl rfl ?_
    refine W.any (.pickF rfl rfl rfl) rfl rfl rfl ?_
    refine W.any (.move rfl) rfl rfl rfl ?_
    refine W.skip rfl rfl rfl (rfl) rfl rfl ?_
    refine W.skip rfl rfl rfl (rfl) rfl rfl ?_
    refine W.skip rfl rfl rfl (rfl) rfl rfl ?_
    refine W.any (.pickF rfl rfl rfl) rfl rfl rfl ?_
    refine W.any (.move rfl) rfl rfl rfl ?_
    refine W.skip rfl rfl rfl (rfl) rfl rfl ?_
    refine W.skip rfl rfl rfl (rfl) rfl rfl ?_
    refine W.skip rfl rfl rfl (rfl) rfl rfl ?_
    refine W.any (.pickF rfl rfl rfl) rfl rfl rfl ?_
    refine W.any (.assign rfl) rfl rfl rfl ?_
    refine W.nil ?_
    refine E.thenN ?_
    refine WC.ret ?_
    refine E.retG1 rfl rfl ?_
    exact ⟨congrArg (fun b => Ending.returned (Value.bool b)) (by simp [polOk, q1_3]), L2⟩

theorem hfee_ok (p : Pol) (a : Int) (hp : PolI p) (w : World) : Calls Try.prog 39 #[.agg (polV p).toArray, .int .i64 (a)] w fun r w' => r = .returned (.tuple #[.int .i64 (feeG p a).1, .bool (feeG p a).2]) ∧ Le w w' := by
  have hp2 := hp.2.1
  refine enter Try.func39 rfl rfl ?_
  have L0 := Le.refl w
  refine WC.seq ?_
  refine WC.region ?_
  refine W.ef rfl rfl rfl ?_
  refine Ef.boxA rfl ?_
  intro g0_0 w0_0 hg0_0 b0_0 h0_0
  have L1 := L0.trans h0_0
  have b0_0 : Blk w0_0 g0_0 74 (polV p).toArray := b0_0
  refine W.any (.assign rfl) rfl rfl rfl ?_
  refine W.any (.assign rfl) rfl rfl rfl ?_
  refine W.nil ?_
  refine E.thenN ?_
  refine WC.seq ?_
  refine WC.region ?_
  refine W.any (.move rfl) rfl rfl rfl ?_
  refine W.any (.field0 fa74_1 rfl) rfl rfl rfl ?_
  refine W.rd (.loadB (v := .int .i64 (p.p)) na3 rfl b0_0 rfl) rfl rfl rfl ?_
  refine W.ef rfl rfl rfl ?_
  refine Ef.call go80 rfl rfl (npart_ok a p.p (by omega) w0_0) ?_
  rintro _ w1_3 ⟨rfl, h1_3⟩
  refine ⟨_, rfl, ?_⟩
  have L2 := L1.trans h1_3
  refine W.any (.move rfl) rfl rfl rfl ?_
  refine W.any (.extract (v := .int .i64 ((partC a p.p).1)) rfl rfl) rfl rfl rfl ?_
  refine W.any (.extract (v := .bool ((partC a p.p).2)) rfl rfl) rfl rfl rfl ?_
  refine W.any (.assign rfl) rfl rfl rfl ?_
  refine W.any (.assign rfl) rfl rfl rfl ?_
  refine W.nil ?_
  refine E.thenN ?_
  refine WC.seq ?_
  refine WC.seq ?_
  refine WC.region ?_
  refine W.any (.move rfl) rfl rfl rfl ?_
  refine W.any (.not rfl) rfl rfl rfl ?_
  by_cases q2_2 : (partC a p.p).2 = true
  · refine W.any (.dec (.move rfl) (congrArg not (q2_2))) rfl rfl rfl ?_
    have f3 := (b0_0.le h1_3)
    refine W.rdg (.loadAll ag74 (by rfl) rfl f3) rfl rfl rfl (rfl) rfl rfl ?_
    refine W.efg rfl rfl rfl (rfl) rfl rfl ?_
    refine Ef.call go81 rfl rfl (hright_ok p w1_3) ?_
    rintro _ w2_4 ⟨rfl, h2_4⟩
    refine ⟨_, rfl, ?_⟩
    have L4 := L2.trans h2_4
    refine W.rdg (Any.rd (.not rfl) _) rfl rfl rfl (rfl) rfl rfl ?_
    refine W.any (.pickF rfl rfl rfl) rfl rfl rfl ?_
    refine W.nil ?_
    refine E.thenN ?_
    by_cases c0 : polOk p = true
    · refine WC.condN rfl (congrArg not (c0)) ?_
      refine WC.skip ?_
      refine E.thenN ?_
      refine WC.seq ?_
      refine WC.region ?_
      refine W.any (.field0 fa74_0 rfl) rfl rfl rfl ?_
      have f5 := (f3.le h2_4)
      refine W.rd (.loadB (v := .int .i64 (p.b)) na3 rfl f5 rfl) rfl rfl rfl ?_
      refine W.any (.move rfl) rfl rfl rfl ?_
      refine W.ef rfl rfl rfl ?_
      refine Ef.call go75 rfl rfl (nadd_ok p.b ((partC a p.p).1) w2_4) ?_
      rintro _ w4_3 ⟨rfl, h4_3⟩
      refine ⟨_, rfl, ?_⟩
      have L6 := L4.trans h4_3
      refine W.any (.extract (v := .int .i64 ((addC p.b ((partC a p.p).1)).1)) rfl rfl) rfl rfl rfl ?_
      refine W.any (.extract (v := .bool ((addC p.b ((partC a p.p).1)).2)) rfl rfl) rfl rfl rfl ?_
      refine W.any (.assign rfl) rfl rfl rfl ?_
      refine W.any (.assign rfl) rfl rfl rfl ?_
      refine W.nil ?_
      refine E.thenN ?_
      refine WC.ret ?_
      refine E.retG2 rfl rfl rfl ?_
      exact ⟨(by first | rfl | (simp [feeG, q2_2, c0]; done) | (simp [feeG, q2_2, c0]; omega) | (simp [feeG, q2_2, c0]; split <;> first | (exfalso; omega) | (simp; done) | (simp; omega))), L6⟩
    · refine WC.condY rfl (congrArg not ((Bool.eq_false_iff.2 c0))) ?_
      refine WC.seq ?_
      refine WC.region ?_
      refine W.any (.assign rfl) rfl rfl rfl ?_
      refine W.any (.assign rfl) rfl rfl rfl ?_
      refine W.nil ?_
      refine E.thenN ?_
      refine WC.ret ?_
      refine E.thenR ?_
      refine E.retG2 rfl rfl rfl ?_
      exact ⟨(by first | rfl | (simp [feeG, q2_2, c0]; done) | (simp [feeG, q2_2, c0]; omega) | (simp [feeG, q2_2, c0]; split <;> first | (exfalso; omega) | (simp; done) | (simp; omega))), L4⟩
  · refine W.any (.dec (.move rfl) (congrArg not ((Bool.eq_false_iff.2 q2_2)))) rfl rfl rfl ?_
    refine W.skip rfl rfl rfl (rfl) rfl rfl ?_
    refine W.skip rfl rfl rfl (rfl) rfl rfl ?_
    refine W.skip rfl rfl rfl (rfl) rfl rfl ?_
    refine W.any (.pickT rfl rfl rfl) rfl rfl rfl ?_
    refine W.nil ?_
    refine E.thenN ?_
    refine WC.condT rfl ?_
    refine WC.seq ?_
    refine WC.region ?_
    refine W.any (.assign rfl) rfl rfl rfl ?_
    refine W.any (.assign rfl) rfl rfl rfl ?_
    refine W.nil ?_
    refine E.thenN ?_
    refine WC.ret ?_
    refine E.thenR ?_
    refine E.retG2 rfl rfl rfl ?_
    exact ⟨(by first | rfl | (simp [feeG, q2_2]; done) | (simp [feeG, q2_2]; omega) | (simp [feeG, q2_2]; split <;> first | (exfalso; omega) | (simp; done) | (simp; omega))), L2⟩

theorem edge_ok (e : Gsp.Edge) (w : World) : Calls Try.prog 82 #[.agg (edgeV e).toArray] w fun r w' => r = .returned (.bool (edgeOk e)) ∧ Le w w' := by
  refine enter Try.func82 rfl rfl ?_
  have L0 := Le.refl w
  refine WC.seq ?_
  refine WC.region ?_
  refine W.ef rfl rfl rfl ?_
  refine Ef.boxA rfl ?_
  intro g0_0 w0_0 hg0_0 b0_0 h0_0
  have L1 := L0.trans h0_0
  have b0_0 : Blk w0_0 g0_0 76 (edgeV e).toArray := b0_0
  refine W.any (.assign rfl) rfl rfl rfl ?_
  refine W.nil ?_
  refine E.thenN ?_
  refine WC.seq ?_
  refine WC.region ?_
  refine W.any (.field0 fa76_0 rfl) rfl rfl rfl ?_
  refine W.rd (.loadB (v := .int .i64 (e.f)) na3 rfl b0_0 rfl) rfl rfl rfl ?_
  refine W.ef rfl rfl rfl ?_
  refine Ef.call go74 rfl rfl (gin_ok e.f 0 11 w0_0) ?_
  rintro _ w1_2 ⟨rfl, h1_2⟩
  refine ⟨_, rfl, ?_⟩
  have L2 := L1.trans h1_2
  by_cases q1_3 : inB e.f 0 11 = true
  · refine W.any (.dec (.move rfl) (q1_3)) rfl rfl rfl ?_
    refine W.rdg (Any.rd (.field0 fa76_1 rfl) _) rfl rfl rfl (rfl) rfl rfl ?_
    have f3 := (b0_0.le h1_2)
    refine W.rdg (.loadB (v := .int .i64 (e.t)) na3 rfl f3 rfl) rfl rfl rfl (rfl) rfl rfl ?_
    refine W.efg rfl rfl rfl (rfl) rfl rfl ?_
    refine Ef.call go74 rfl rfl (gin_ok e.t 0 11 w1_2) ?_
    rintro _ w1_6 ⟨rfl, h1_6⟩
    refine ⟨_, rfl, ?_⟩
    have L4 := L2.trans h1_6
    refine W.any (.pickT rfl rfl rfl) rfl rfl rfl ?_
    by_cases q1_8 : inB e.t 0 11 = true
    · refine W.any (.dec (.move rfl) (q1_8)) rfl rfl rfl ?_
      refine W.rdg (Any.rd (.field0 fa76_0 rfl) _) rfl rfl rfl (rfl) rfl rfl ?_
      have f5 := (f3.le h1_6)
      refine W.rdg (.loadB (v := .int .i64 (e.f)) na3 rfl f5 rfl) rfl rfl rfl (rfl) rfl rfl ?_
      refine W.rdg (Any.rd (.field0 fa76_1 rfl) _) rfl rfl rfl (rfl) rfl rfl ?_
      refine W.rdg (.loadB (v := .int .i64 (e.t)) na3 rfl f5 rfl) rfl rfl rfl (rfl) rfl rfl ?_
      refine W.rdg (Any.rd (.neq rfl rfl) _) rfl rfl rfl (rfl) rfl rfl ?_
      refine W.any (.pickT rfl rfl rfl) rfl rfl rfl ?_
      by_cases q1_15 : e.f ≠ e.t
      · refine W.any (.dec (.move rfl) (decide_eq_true q1_15)) rfl rfl rfl ?_
        refine W.rdg (Any.rd (.field0 fa76_2 rfl) _) rfl rfl rfl (rfl) rfl rfl ?_
        refine W.rdg (.loadB (v := .int .i64 (e.c)) na3 rfl f5 rfl) rfl rfl rfl (rfl) rfl rfl ?_
        refine W.efg rfl rfl rfl (rfl) rfl rfl ?_
        refine Ef.call go74 rfl rfl (gin_ok e.c 0 39 w1_6) ?_
        rintro _ w1_18 ⟨rfl, h1_18⟩
        refine ⟨_, rfl, ?_⟩
        have L6 := L4.trans h1_18
        refine W.any (.pickT rfl rfl rfl) rfl rfl rfl ?_
        by_cases q1_20 : inB e.c 0 39 = true
        · refine W.any (.dec (.move rfl) (q1_20)) rfl rfl rfl ?_
          refine W.rdg (Any.rd (.field0 fa76_3 rfl) _) rfl rfl rfl (rfl) rfl rfl ?_
          have f7 := (f5.le h1_18)
          refine W.rdg (.loadB (v := .int .i64 (e.r)) na3 rfl f7 rfl) rfl rfl rfl (rfl) rfl rfl ?_
          refine W.efg rfl rfl rfl (rfl) rfl rfl ?_
          refine Ef.call go74 rfl rfl (gin_ok e.r 1 1125899906842624 w1_18) ?_
          rintro _ w1_23 ⟨rfl, h1_23⟩
          refine ⟨_, rfl, ?_⟩
          have L8 := L6.trans h1_23
          refine W.any (.pickT rfl rfl rfl) rfl rfl rfl ?_
          by_cases q1_25 : inB e.r 1 1125899906842624 = true
          · refine W.any (.dec (.move rfl) (q1_25)) rfl rfl rfl ?_
            refine W.rdg (Any.rd (.field0 fa76_4 rfl) _) rfl rfl rfl (rfl) rfl rfl ?_
            have f9 := (f7.le h1_23)
            refine W.rdg (.bpart (polV e.pol) ag74 rfl (by decide) rfl f9 rfl) rfl rfl rfl (rfl) rfl rfl ?_
            refine W.efg rfl rfl rfl (rfl) rfl rfl ?_
            refine Ef.call go81 rfl rfl (hright_ok e.pol w1_23) ?_
            rintro _ w1_28 ⟨rfl, h1_28⟩
            refine ⟨_, rfl, ?_⟩
            have L10 := L8.trans h1_28
            refine W.any (.pickT rfl rfl rfl) rfl rfl rfl ?_
            refine W.any (.assign rfl) rfl rfl rfl ?_
            refine W.nil ?_
            refine E.thenN ?_
            refine WC.ret ?_
            refine E.retG1 rfl rfl ?_
            exact ⟨congrArg (fun b => Ending.returned (Value.bool b)) (by simp [edgeOk, q1_3, q1_8, q1_15, q1_20, q1_25]), L10⟩
          · refine W.any (.dec (.move rfl) ((Bool.eq_false_iff.2 q1_25))) rfl rfl rfl ?_
            refine W.skip rfl rfl rfl (rfl) rfl rfl ?_
            refine W.skip rfl rfl rfl (rfl) rfl rfl ?_
            refine W.skip rfl rfl rfl (rfl) rfl rfl ?_
            refine W.any (.pickF rfl rfl rfl) rfl rfl rfl ?_
            refine W.any (.assign rfl) rfl rfl rfl ?_
            refine W.nil ?_
            refine E.thenN ?_
            refine WC.ret ?_
            refine E.retG1 rfl rfl ?_
            exact ⟨congrArg (fun b => Ending.returned (Value.bool b)) (by simp [edgeOk, q1_3, q1_8, q1_15, q1_20, q1_25]), L8⟩
        · refine W.any (.dec (.move rfl) ((Bool.eq_false_iff.2 q1_20))) rfl rfl rfl ?_
          refine W.skip rfl rfl rfl (rfl) rfl rfl ?_
          refine W.skip rfl rfl rfl (rfl) rfl rfl ?_
          refine W.skip rfl rfl rfl (rfl) rfl rfl ?_
          refine W.any (.pickF rfl rfl rfl) rfl rfl rfl ?_
          refine W.any (.move rfl) rfl rfl rfl ?_
          refine W.skip rfl rfl rfl (rfl) rfl rfl ?_
          refine W.skip rfl rfl rfl (rfl) rfl rfl ?_
          refine W.skip rfl rfl rfl (rfl) rfl rfl ?_
          refine W.any (.pickF rfl rfl rfl) rfl rfl rfl ?_
          refine W.any (.assign rfl) rfl rfl rfl ?_
          refine W.nil ?_
          refine E.thenN ?_
          refine WC.ret ?_
          refine E.retG1 rfl rfl ?_
          exact ⟨congrArg (fun b => Ending.returned (Value.bool b)) (by simp [edgeOk, q1_3, q1_8, q1_15, q1_20]), L6⟩
      · refine W.any (.dec (.move rfl) (decide_eq_false q1_15)) rfl rfl rfl ?_
        refine W.skip rfl rfl rfl (rfl) rfl rfl ?_
        refine W.skip rfl rfl rfl (rfl) rfl rfl ?_
        refine W.skip rfl rfl rfl (rfl) rfl rfl ?_
        refine W.any (.pickF rfl rfl rfl) rfl rfl rfl ?_
        refine W.any (.move rfl) rfl rfl rfl ?_
        refine W.skip rfl rfl rfl (rfl) rfl rfl ?_
        refine W.skip rfl rfl rfl (rfl) rfl rfl ?_
        refine W.skip rfl rfl rfl (rfl) rfl rfl ?_
        refine W.any (.pickF rfl rfl rfl) rfl rfl rfl ?_
        refine W.any (.move rfl) rfl rfl rfl ?_
        refine W.skip rfl rfl rfl (rfl) rfl rfl ?_
        refine W.skip rfl rfl rfl (rfl) rfl rfl ?_
        refine W.skip rfl rfl rfl (rfl) rfl rfl ?_
        refine W.any (.pickF rfl rfl rfl) rfl rfl rfl ?_
        refine W.any (.assign rfl) rfl rfl rfl ?_
        refine W.nil ?_
        refine E.thenN ?_
        refine WC.ret ?_
        refine E.retG1 rfl rfl ?_
        exact ⟨congrArg (fun b => Ending.returned (Value.bool b)) (by simp [edgeOk, q1_3, q1_8, q1_15]), L4⟩
    · refine W.any (.dec (.move rfl) ((Bool.eq_false_iff.2 q1_8))) rfl rfl rfl ?_
      refine W.skip rfl rfl rfl (rfl) rfl rfl ?_
      refine W.skip rfl rfl rfl (rfl) rfl rfl ?_
      refine W.skip rfl rfl rfl (rfl) rfl rfl ?_
      refine W.skip rfl rfl rfl (rfl) rfl rfl ?_
      refine W.skip rfl rfl rfl (rfl) rfl rfl ?_
      refine W.any (.pickF rfl rfl rfl) rfl rfl rfl ?_
      refine W.any (.move rfl) rfl rfl rfl ?_
      refine W.skip rfl rfl rfl (rfl) rfl rfl ?_
      refine W.skip rfl rfl rfl (rfl) rfl rfl ?_
      refine W.skip rfl rfl rfl (rfl) rfl rfl ?_
      refine W.any (.pickF rfl rfl rfl) rfl rfl rfl ?_
      refine W.any (.move rfl) rfl rfl rfl ?_
      refine W.skip rfl rfl rfl (rfl) rfl rfl ?_
      refine W.skip rfl rfl rfl (rfl) rfl rfl ?_
      refine W.skip rfl rfl rfl (rfl) rfl rfl ?_
      refine W.any (.pickF rfl rfl rfl) rfl rfl rfl ?_
      refine W.any (.move rfl) rfl rfl rfl ?_
      refine W.skip rfl rfl rfl (rfl) rfl rfl ?_
      refine W.skip rfl rfl rfl (rfl) rfl rfl ?_
      refine W.skip rfl rfl rfl (rfl) rfl rfl ?_
      refine W.any (.pickF rfl rfl rfl) rfl rfl rfl ?_
      refine W.any (.assign rfl) rfl rfl rfl ?_
      refine W.nil ?_
      refine E.thenN ?_
      refine WC.ret ?_
      refine E.retG1 rfl rfl ?_
      exact ⟨congrArg (fun b => Ending.returned (Value.bool b)) (by simp [edgeOk, q1_3, q1_8]), L4⟩
  · refine W.any (.dec (.move rfl) ((Bool.eq_false_iff.2 q1_3))) rfl rfl rfl ?_
    refine W.skip rfl rfl rfl (rfl) rfl rfl ?_
    refine W.skip rfl rfl rfl (rfl) rfl rfl ?_
    refine W.skip rfl rfl rfl (rfl) rfl rfl ?_
    refine W.any (.pickF rfl rfl rfl) rfl rfl rfl ?_
    refine W.any (.move rfl) rfl rfl rfl ?_
    refine W.skip rfl rfl rfl (rfl) rfl rfl ?_
    refine W.skip rfl rfl rfl (rfl) rfl rfl ?_
    refine W.skip rfl rfl rfl (rfl) rfl rfl ?_
    refine W.skip rfl rfl rfl (rfl) rfl rfl ?_
    refine W.skip rfl rfl rfl (rfl) rfl rfl ?_
    refine W.any (.pickF rfl rfl rfl) rfl rfl rfl ?_
    refine W.any (.move rfl) rfl rfl rfl ?_
    refine W.skip rfl rfl rfl (rfl) rfl rfl ?_
    refine W.skip rfl rfl rfl (rfl) rfl rfl ?_
    refine W.skip rfl rfl rfl (rfl) rfl rfl ?_
    refine W.any (.pickF rfl rfl rfl) rfl rfl rfl ?_
    refine W.any (.move rfl) rfl rfl rfl ?_
    refine W.skip rfl rfl rfl (rfl) rfl rfl ?_
    refine W.skip rfl rfl rfl (rfl) rfl rfl ?_
    refine W.skip rfl rfl rfl (rfl) rfl rfl ?_
    refine W.any (.pickF rfl rfl rfl) rfl rfl rfl ?_
    refine W.any (.move rfl) rfl rfl rfl ?_
    refine W.skip rfl rfl rfl (rfl) rfl rfl ?_
    refine W.skip rfl rfl rfl (rfl) rfl rfl ?_
    refine W.skip rfl rfl rfl (rfl) rfl rfl ?_
    refine W.any (.pickF rfl rfl rfl) rfl rfl rfl ?_
    refine W.any (.assign rfl) rfl rfl rfl ?_
    refine W.nil ?_
    refine E.thenN ?_
    refine WC.ret ?_
    refine E.retG1 rfl rfl ?_
    exact ⟨congrArg (fun b => Ending.returned (Value.bool b)) (by simp [edgeOk, q1_3]), L2⟩

theorem isNaN_ok (a : Int) (w : World) : Calls Try.prog 161 #[.int .i64 (a)] w fun r w' => r = .returned (.bool false) ∧ Le w w' := by
  refine enter Try.func161 rfl rfl ?_
  have L0 := Le.refl w
  refine WC.seq ?_
  refine WC.region ?_
  refine W.any (.assign rfl) rfl rfl rfl ?_
  refine W.nil ?_
  refine E.thenN ?_
  refine WC.seq ?_
  refine WC.region ?_
  refine W.any (.move rfl) rfl rfl rfl ?_
  refine W.any (.move rfl) rfl rfl rfl ?_
  refine W.any (.neq rfl rfl) rfl rfl rfl ?_
  refine W.any (.assign rfl) rfl rfl rfl ?_
  refine W.nil ?_
  refine E.thenN ?_
  refine WC.ret ?_
  refine E.retG1 rfl rfl ?_
  exact ⟨by simp, L0⟩

theorem compare_ok (a b : Int) (w : World) : Calls Try.prog 137 #[.int .i64 (a), .int .i64 (b)] w fun r w' => r = .returned (.int .i64 (cmpI a b)) ∧ Le w w' := by
  refine enter Try.func137 rfl rfl ?_
  have L0 := Le.refl w
  refine WC.seq ?_
  refine WC.region ?_
  refine W.any (.assign rfl) rfl rfl rfl ?_
  refine W.nil ?_
  refine E.thenN ?_
  refine WC.seq ?_
  refine WC.region ?_
  refine W.any (.move rfl) rfl rfl rfl ?_
  refine W.ef rfl rfl rfl ?_
  refine Ef.call go161 rfl rfl (isNaN_ok a w) ?_
  rintro _ w1_1 ⟨rfl, h1_1⟩
  refine ⟨_, rfl, ?_⟩
  have L1 := L0.trans h1_1
  refine W.any (.assign rfl) rfl rfl rfl ?_
  refine W.nil ?_
  refine E.thenN ?_
  refine WC.seq ?_
  refine WC.region ?_
  refine W.any (.move rfl) rfl rfl rfl ?_
  refine W.ef rfl rfl rfl ?_
  refine Ef.call go161 rfl rfl (isNaN_ok b w1_1) ?_
  rintro _ w2_1 ⟨rfl, h2_1⟩
  refine ⟨_, rfl, ?_⟩
  have L2 := L1.trans h2_1
  refine W.any (.assign rfl) rfl rfl rfl ?_
  refine W.nil ?_
  refine E.thenN ?_
  refine WC.seq ?_
  refine WC.seq ?_
  refine WC.region ?_
  refine W.any (.move rfl) rfl rfl rfl ?_
  refine W.nil ?_
  refine E.thenN ?_
  refine WC.condF rfl ?_
  refine WC.skip ?_
  refine E.thenN ?_
  refine WC.seq ?_
  refine WC.seq ?_
  refine WC.region ?_
  refine W.any (.move rfl) rfl rfl rfl ?_
  refine W.nil ?_
  refine E.thenN ?_
  refine WC.condF rfl ?_
  refine WC.skip ?_
  refine E.thenN ?_
  refine WC.seq ?_
  refine WC.seq ?_
  refine WC.region ?_
  refine W.any (.move rfl) rfl rfl rfl ?_
  refine W.any (.move rfl) rfl rfl rfl ?_
  refine W.any (.lss rfl rfl) rfl rfl rfl ?_
  refine W.nil ?_
  refine E.thenN ?_
  by_cases c3 : a < b
  · refine WC.condY rfl (decide_eq_true c3) ?_
    refine WC.seq ?_
    refine WC.region ?_
    refine W.any (.assign rfl) rfl rfl rfl ?_
    refine W.nil ?_
    refine E.thenN ?_
    refine WC.ret ?_
    refine E.thenR ?_
    refine E.retG1 rfl rfl ?_
    exact ⟨(by first | rfl | (simp [cmpI, c3]; done) | (simp [cmpI, c3]; omega) | (simp [cmpI, c3]; split <;> first | (exfalso; omega) | (simp; done) | (simp; omega))), L2⟩
  · refine WC.condN rfl (decide_eq_false c3) ?_
    refine WC.skip ?_
    refine E.thenN ?_
    refine WC.seq ?_
    refine WC.seq ?_
    refine WC.region ?_
    refine W.any (.move rfl) rfl rfl rfl ?_
    refine W.any (.move rfl) rfl rfl rfl ?_
    refine W.any (.gtr rfl rfl) rfl rfl rfl ?_
    refine W.nil ?_
    refine E.thenN ?_
    by_cases c4 : b < a
    · refine WC.condY rfl (decide_eq_true c4) ?_
      refine WC.seq ?_
      refine WC.region ?_
      refine W.any (.assign rfl) rfl rfl rfl ?_
      refine W.nil ?_
      refine E.thenN ?_
      refine WC.ret ?_
      refine E.thenR ?_
      refine E.retG1 rfl rfl ?_
      exact ⟨(by first | rfl | (simp [cmpI, c3, c4]; done) | (simp [cmpI, c3, c4]; omega) | (simp [cmpI, c3, c4]; split <;> first | (exfalso; omega) | (simp; done) | (simp; omega))), L2⟩
    · refine WC.condN rfl (decide_eq_false c4) ?_
      refine WC.skip ?_
      refine E.thenN ?_
      refine WC.seq ?_
      refine WC.region ?_
      refine W.any (.assign rfl) rfl rfl rfl ?_
      refine W.nil ?_
      refine E.thenN ?_
      refine WC.ret ?_
      refine E.retG1 rfl rfl ?_
      exact ⟨(by first | rfl | (simp [cmpI, c3, c4]; done) | (simp [cmpI, c3, c4]; omega) | (simp [cmpI, c3, c4]; split <;> first | (exfalso; omega) | (simp; done) | (simp; omega))), L2⟩

theorem or2_ok {A : Option Addr} {n c : Nat} {xs : List Int} (w : World) (hV : Vec w iv 1 A n xs) (hn : n ≤ 1000000) : Calls Try.prog 136 #[.slice A n c] w fun r w' => r = .returned (.int .i64 (orL xs)) ∧ Le w w' := by
  have hl := hV.1
  refine enter Try.func136 rfl rfl ?_
  have L0 := Le.refl w
  refine WC.seq ?_
  refine WC.region ?_
  refine W.any (.assign rfl) rfl rfl rfl ?_
  refine W.nil ?_
  refine E.thenN ?_
  refine WC.seq ?_
  refine WC.region ?_
  refine W.any (.assign rfl) rfl rfl rfl ?_
  refine W.nil ?_
  refine E.thenN ?_
  refine WC.seq ?_
  refine WC.seq ?_
  refine WC.region ?_
  refine W.any (.move rfl) rfl rfl rfl ?_
  refine W.rd (.len Try.underlying53 rfl) rfl rfl rfl ?_
  refine W.any (.move rfl) rfl rfl rfl ?_
  refine W.nil ?_
  refine E.thenN ?_
  refine WC.block ?_
  refine WC.loop (ι := Nat) (fun k => [(3, .int .i64 (0)), (6, .slice A n c), (7, .int .i64 (((n : Nat) : Int))), (8, .int .i64 (((k : Nat) : Int)))]) (fun k wl0 => (k ≤ n) ∧ (∀ j, j < k → xs.getD j 0 = 0) ∧ Le w wl0 ∧ w.heap.size ≤ wl0.heap.size) (fun k => n - k) 0 ?_ ?_ ?_
  · exact .cons rfl (.cons rfl (.cons rfl (.cons rfl (.nil _))))
  · exact ⟨Nat.zero_le _, fun j hj => absurd hj (Nat.not_lt_zero _), L0, Nat.le_refl _⟩
  · rintro k wl0 ⟨hk, hz, Ll0, sz0⟩
    refine WC.seq ?_
    refine WC.region ?_
    refine W.any (.lss rfl rfl) rfl rfl rfl ?_
    refine W.nil ?_
    refine E.thenN ?_
    refine WC.seq ?_
    by_cases c0 : ((k : Nat) : Int) < ((n : Nat) : Int)
    · refine WC.condY rfl (decide_eq_true c0) ?_
      refine WC.skip ?_
      refine E.thenN ?_
      refine WC.seq ?_
      refine WC.block ?_
      refine WC.seq ?_
      refine WC.region ?_
      refine W.any (.idxS (k) Try.underlying53 sz3 rfl rfl (hV.isSome iv_row (by omega)) (rfl) (by omega)) rfl rfl rfl ?_
      refine W.rd (.vone (v := .int .i64 ((xs.getD k 0))) na3 rfl (hV.le Ll0) iv_row (getS xs 0 (by first | omega | (simp only [List.length_cons, List.length_nil]; omega))) rfl) rfl rfl rfl ?_
      refine W.any (.assign rfl) rfl rfl rfl ?_
      refine W.nil ?_
      refine E.thenN ?_
      refine WC.seq ?_
      refine WC.region ?_
      refine W.any (.move rfl) rfl rfl rfl ?_
      refine W.any (.move rfl) rfl rfl rfl ?_
      refine W.any (.neq rfl rfl) rfl rfl rfl ?_
      refine W.nil ?_
      refine E.thenN ?_
      by_cases c1 : (xs.getD k 0) ≠ 0
      · refine WC.condY rfl (decide_eq_true c1) ?_
        refine WC.seq ?_
        refine WC.region ?_
        refine W.any (.move rfl) rfl rfl rfl ?_
        refine W.any (.assign rfl) rfl rfl rfl ?_
        refine W.nil ?_
        refine E.thenN ?_
        refine WC.ret ?_
        refine E.blkR ?_
        refine E.thenR ?_
        refine E.thenR ?_
        refine E.blkR ?_
        refine E.thenR ?_
        refine E.retG1 rfl rfl ?_
        exact ⟨by rw [orL_skip xs k hz, List.drop_eq_getElem_cons (by omega), orL, if_pos (by simpa [List.getD, show k < xs.length by omega] using c1)]; simp [List.getD, show k < xs.length by omega], Ll0⟩
      · refine WC.condN rfl (decide_eq_false c1) ?_
        refine WC.skip ?_
        refine E.blkN ?_
        refine E.thenN ?_
        refine WC.region ?_
        refine W.any (.add rfl rfl (by omega)) rfl rfl rfl ?_
        refine W.any (.move rfl) rfl rfl rfl ?_
        refine W.nil ?_
        refine E.again (k + 1) (.cons rfl (.cons rfl (.cons rfl (.cons rfl (.nil _))))) ?_ ?_
        · exact ⟨by omega, fun j hj => by rcases Nat.lt_or_ge j k with h | h; exact hz j h; rw [show j = k by omega]; exact Decidable.not_not.1 c1, Ll0, by have := sz0; omega⟩
        · first | omega | (simp only []; omega)
    · refine WC.condN rfl (decide_eq_false c0) ?_
      refine WC.exit ?_
      refine E.thenX ?_
      refine E.thenX ?_
      refine E.blkH ?_
      refine E.thenN ?_
      refine WC.seq ?_
      refine WC.region ?_
      refine W.any (.move rfl) rfl rfl rfl ?_
      refine W.any (.assign rfl) rfl rfl rfl ?_
      refine W.nil ?_
      refine E.thenN ?_
      refine WC.ret ?_
      refine E.retG1 rfl rfl ?_
      exact ⟨by rw [orL_skip xs k hz, List.drop_of_length_le (by omega)]; rfl, Ll0⟩

theorem order_ok (a b : Gsp.Edge) (w : World) : Calls Try.prog 85 #[.agg (edgeV a).toArray, .agg (edgeV b).toArray] w fun r w' => r = .returned (.int .i64 (ordE a b)) ∧ Le w w' := by
  refine enter Try.func85 rfl rfl ?_
  have L0 := Le.refl w
  refine WC.seq ?_
  refine WC.region ?_
  refine W.ef rfl rfl rfl ?_
  refine Ef.boxA rfl ?_
  intro g0_0 w0_0 hg0_0 b0_0 h0_0
  have L1 := L0.trans h0_0
  have b0_0 : Blk w0_0 g0_0 76 (edgeV a).toArray := b0_0
  refine W.ef rfl rfl rfl ?_
  refine Ef.boxA rfl ?_
  intro g0_1 w0_1 hg0_1 b0_1 h0_1
  have L2 := L1.trans h0_1
  have b0_1 : Blk w0_1 g0_1 76 (edgeV b).toArray := b0_1
  refine W.any (.assign rfl) rfl rfl rfl ?_
  refine W.nil ?_
  refine E.thenN ?_
  refine WC.seq ?_
  refine WC.draw [0, 1, 2, 3, 5, 6, 7, 8, 4, 9, 10, 11, 12] mixed (by kernel_rfl) ?_
  intro w1 d1
  have L3 := L2.trans d1
  refine G.any rfl rfl (.field0 fa76_2 rfl) rfl rfl rfl ?_
  have f4 := (b0_0.le (h0_1.trans d1))
  refine G.rd rfl rfl (.loadB (v := .int .i64 (a.c)) na3 rfl f4 rfl) rfl rfl rfl ?_
  refine G.any rfl rfl (.field0 fa76_2 rfl) rfl rfl rfl ?_
  have f5 := (b0_1.le d1)
  refine G.rd rfl rfl (.loadB (v := .int .i64 (b.c)) na3 rfl f5 rfl) rfl rfl rfl ?_
  refine G.any rfl rfl (.field0 fa76_0 rfl) rfl rfl rfl ?_
  refine G.rd rfl rfl (.loadB (v := .int .i64 (a.f)) na3 rfl f4 rfl) rfl rfl rfl ?_
  refine G.any rfl rfl (.field0 fa76_0 rfl) rfl rfl rfl ?_
  refine G.rd rfl rfl (.loadB (v := .int .i64 (b.f)) na3 rfl f5 rfl) rfl rfl rfl ?_
  refine G.ef rfl rfl rfl rfl rfl ?_
  refine Ef.call go137 rfl rfl (compare_ok a.c b.c w1) ?_
  rintro _ w1_4 ⟨rfl, h1_4⟩
  refine ⟨_, rfl, ?_⟩
  refine ⟨fun _ => h1_4, ?_⟩
  have L6 := L3.trans h1_4
  refine G.ef rfl rfl rfl rfl rfl ?_
  refine Ef.call go137 rfl rfl (compare_ok a.f b.f w1_4) ?_
  rintro _ w1_9 ⟨rfl, h1_9⟩
  refine ⟨_, rfl, ?_⟩
  refine ⟨fun _ => h1_9, ?_⟩
  have L7 := L6.trans h1_9
  refine G.ef rfl rfl rfl rfl rfl ?_
  refine Ef.buildSliceV (len := 2) [_, _] Try.underlying53 el3 rfl (by simp [Value.cells]) rfl (by decide) (by decide) ?_
  intro g1_10 w1_10 hg1_10 b1_10 h1_10
  refine ⟨fun _ => h1_10, ?_⟩
  have L8 := L7.trans h1_10
  have b1_10 : Blk w1_10 g1_10 3 (([(cmpI a.c b.c), (cmpI a.f b.f)]).map iv).flatten.toArray := b1_10
  have o1_10 : OVec w1_10 w1_9.heap.size 3 iv 1 (some ⟨g1_10, 0, none⟩) 2 2 ([(cmpI a.c b.c), (cmpI a.f b.f)]) := b1_10.ovec hg1_10 iv_row rfl rfl (by decide)
  refine G.ef rfl rfl rfl rfl rfl ?_
  refine Ef.call go136 rfl rfl (or2_ok w1_10 o1_10.vec (by decide)) ?_
  rintro _ w1_11 ⟨rfl, h1_11⟩
  refine ⟨_, rfl, ?_⟩
  refine ⟨fun _ => h1_11, ?_⟩
  have L9 := L8.trans h1_11
  refine G.any rfl rfl (.assign rfl) rfl rfl rfl ?_
  refine G.nil ?_
  refine E.thenN ?_
  refine WC.ret ?_
  refine E.retG1 rfl rfl ?_
  exact ⟨by simp only [orL, ordE]; split <;> first | rfl | (split <;> simp_all), L9⟩
end Go.Proofs.Ytfgakofjkldcjaa
