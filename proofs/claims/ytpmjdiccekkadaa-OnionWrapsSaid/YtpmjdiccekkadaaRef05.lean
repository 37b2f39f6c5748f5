/- The document's scalars and points (layers 5 and 6), walked: they compute what the program's do. -/
import Derived.Test.YtpmjdiccekkadaaPoint
import Derived.Test.YtpmjdiccekkadaaRef04b
namespace Go.Proofs.Ytpmjdiccekkadaa
open Go Go.Sx Go.Num
set_option maxRecDepth 20000
theorem dbl1 (D a n out : Nat) (h : n % 2 = 1) : ((out + a) % D + (a + a) % D * (n / 2)) % D = (out + a * n) % D := by
  have e : a * n = a + (a + a) * (n / 2) := by
    have hn2 : n = 2 * (n / 2) + 1 := by omega
    conv => lhs; rw [hn2]
    rw [Nat.mul_add, Nat.mul_one, ← Nat.mul_assoc, Nat.mul_two, Nat.add_comm]
  rw [e, ← Nat.add_assoc, Nat.add_mod, Nat.mod_mod, Nat.mul_mod, Nat.mod_mod, ← Nat.mul_mod, ← Nat.add_mod]
theorem dbl0 (D a n out : Nat) (h : ¬ n % 2 = 1) : (out + (a + a) % D * (n / 2)) % D = (out + a * n) % D := by
  have e : a * n = (a + a) * (n / 2) := by
    have hn2 : n = 2 * (n / 2) := by omega
    conv => lhs; rw [hn2]
    rw [← Nat.mul_assoc, Nat.mul_two]
  rw [e, Nat.add_mod, Nat.mul_mod, Nat.mod_mod, ← Nat.mul_mod, ← Nat.add_mod]
theorem dbl_end (D a out : Nat) (h : out < D) : (out + a * 0) % D = out := by rw [Nat.mul_zero, Nat.add_zero, Nat.mod_eq_of_lt h]
/-- 256 times a number and a byte, bit by bit: m bits are left. -/
def bitsTo (n b m : Nat) : Nat := (2 ^ (8 - m) * n + b / 2 ^ m) % 2305843009213688668
theorem bits_lt (n b m : Nat) : bitsTo n b m < 2305843009213688668 := Nat.mod_lt _ (by decide)
theorem bits_start (n b : Nat) (hn : n < 2305843009213688668) (hb : b < 256) : n = bitsTo n b 8 := by
  rw [bitsTo, Nat.div_eq_of_lt (by simpa using hb), Nat.sub_self, Nat.pow_zero, Nat.one_mul, Nat.add_zero, Nat.mod_eq_of_lt hn]
theorem bits_step (n b m : Nat) (h1 : 0 < m) (h8 : m ≤ 8) : (2 * bitsTo n b m + b / 2 ^ (m - 1) % 2) % 2305843009213688668 = bitsTo n b (m - 1) := by
  have e1 : 2 ^ (8 - (m - 1)) = 2 * 2 ^ (8 - m) := by rw [show 8 - (m - 1) = (8 - m) + 1 by omega, Nat.pow_succ, Nat.mul_comm]
  have e2 : b / 2 ^ (m - 1) = 2 * (b / 2 ^ m) + b / 2 ^ (m - 1) % 2 := by
    have : b / 2 ^ m = b / 2 ^ (m - 1) / 2 := by rw [Nat.div_div_eq_div_mul, ← Nat.pow_succ, show (m - 1).succ = m by omega]
    rw [this]; omega
  have e3 : 2 ^ (8 - (m - 1)) * n + b / 2 ^ (m - 1) = 2 * (2 ^ (8 - m) * n + b / 2 ^ m) + b / 2 ^ (m - 1) % 2 := by
    rw [e1, Nat.mul_add, Nat.mul_assoc, Nat.add_assoc, ← e2]
  rw [bitsTo, bitsTo, e3, Nat.add_mod, Nat.mul_mod, Nat.mod_mod, ← Nat.mul_mod, ← Nat.add_mod]
theorem bits_end (n b : Nat) : bitsTo n b 0 = (256 * n + b) % 2305843009213688668 := by rw [bitsTo, Nat.pow_zero, Nat.div_one]
theorem rfright_ok (a : Nat) (w : World) : Calls Try.prog 88 #[.int .u64 ((a : Nat) : Int)] w fun e w' => e = .returned (.bool (decide (a < q))) ∧ Le w w' := by
  refine enter Try.func88 rfl rfl ?_
  have L0 := Le.refl w
  refine WC.seq ?_
  refine WC.region ?_
  refine W.any (.assign rfl) rfl rfl rfl ?_
  refine W.nil ?_
  refine E.thenN ?_
  refine WC.seq ?_
  refine WC.region ?_
  refine W.any (.move rfl) rfl rfl rfl ?_
  refine W.any (.lss rfl rfl) rfl rfl rfl ?_
  refine W.any (.assign rfl) rfl rfl rfl ?_
  refine W.nil ?_
  refine E.thenN ?_
  refine WC.ret ?_
  refine E.ret1 rfl rfl ?_
  exact ⟨congrArg (fun b => Ending.returned (Value.bool b)) (decide_eq_decide.2 (by rw [q_def]; omega)), L0⟩

theorem rof_ok (a : Nat) (w : World) : Calls Try.prog 133 #[.int .u64 ((a : Nat) : Int)] w fun e w' => e = .returned (.int .u64 ((a % q : Nat) : Int)) ∧ Le w w' := by
  refine enter Try.func133 rfl rfl ?_
  have L0 := Le.refl w
  refine WC.seq ?_
  refine WC.region ?_
  refine W.any (.assign rfl) rfl rfl rfl ?_
  refine W.nil ?_
  refine E.thenN ?_
  refine WC.seq ?_
  refine WC.region ?_
  refine W.any (.move rfl) rfl rfl rfl ?_
  refine W.any (.remN (a) (2305843009213688669) (a % 2305843009213688669) rfl rfl rfl rfl (by decide) (rfl)) rfl rfl rfl ?_
  refine W.any (.assign rfl) rfl rfl rfl ?_
  refine W.nil ?_
  refine E.thenN ?_
  refine WC.ret ?_
  refine E.ret1 rfl rfl ?_
  exact ⟨rfl, L0⟩

theorem rfmul_ok (a b : Nat) (w : World) : Calls Try.prog 115 #[.int .u64 ((a : Nat) : Int), .int .u64 ((b : Nat) : Int)] w fun e w' => e = .returned (.int .u64 ((mulS a b : Nat) : Int)) ∧ Le w w' := by
  refine enter Try.func115 rfl rfl ?_
  have L0 := Le.refl w
  refine WC.seq ?_
  refine WC.region ?_
  refine W.any (.assign rfl) rfl rfl rfl ?_
  refine W.nil ?_
  refine E.thenN ?_
  refine WC.seq ?_
  refine WC.region ?_
  refine W.any (.move rfl) rfl rfl rfl ?_
  refine W.ef rfl rfl rfl ?_
  refine Ef.call go133 rfl rfl (rof_ok a w) ?_
  rintro _ w1_1 ⟨rfl, h1_1⟩
  refine ⟨_, rfl, ?_⟩
  have L1_1 := L0.trans h1_1
  refine W.any (.assign rfl) rfl rfl rfl ?_
  refine W.nil ?_
  refine E.thenN ?_
  refine WC.seq ?_
  refine WC.region ?_
  refine W.any (.move rfl) rfl rfl rfl ?_
  refine W.ef rfl rfl rfl ?_
  refine Ef.call go133 rfl rfl (rof_ok b w1_1) ?_
  rintro _ w2_1 ⟨rfl, h2_1⟩
  refine ⟨_, rfl, ?_⟩
  have L2_1 := L1_1.trans h2_1
  refine W.any (.assign rfl) rfl rfl rfl ?_
  refine W.nil ?_
  refine E.thenN ?_
  refine WC.seq ?_
  refine WC.region ?_
  refine W.any (.assign rfl) rfl rfl rfl ?_
  refine W.nil ?_
  refine E.thenN ?_
  refine WC.seq ?_
  refine WC.block ?_
  refine WC.loop (ι := Nat × Nat × Nat) (fun ⟨x, y, out⟩ => [(5, .int .u64 ((x : Nat) : Int)), (6, .int .u64 ((y : Nat) : Int)), (7, .int .u64 ((out : Nat) : Int))]) (fun ⟨x, y, out⟩ wl => Le w wl ∧ x < 2305843009213688669 ∧ y < 18446744073709551616 ∧ out < 2305843009213688669 ∧ (out + x * y) % 2305843009213688669 = (a % q) * (b % q) % 2305843009213688669) (fun ⟨x, y, out⟩ => y) (a % q, b % q, 0) ?_ ?_ ?_
  · exact .cons rfl (.cons rfl (.cons rfl (.nil _)))
  · exact ⟨L2_1, Nat.mod_lt _ (by decide), mod_q_lt b, by decide, by rw [Nat.zero_add]⟩
  · rintro ⟨x, y, out⟩ wl ⟨Ll, hx, hy, ho, hi⟩
    refine WC.seq ?_
    refine WC.seq ?_
    refine WC.region ?_
    refine W.any (.move rfl) rfl rfl rfl ?_
    refine W.any (.gtr rfl rfl) rfl rfl rfl ?_
    refine W.nil ?_
    refine E.thenN ?_
    refine WC.cond rfl (fun c0 => ?_) (fun c0 => ?_)
    · refine WC.skip ?_
      refine E.thenN ?_
      refine WC.block ?_
      refine WC.seq ?_
      refine WC.seq ?_
      refine WC.region ?_
      refine W.any (.move rfl) rfl rfl rfl ?_
      refine W.any (.remN (y) (2) (y % 2) rfl rfl rfl rfl (by decide) (rfl)) rfl rfl rfl ?_
      refine W.any (.eql rfl rfl) rfl rfl rfl ?_
      refine W.nil ?_
      refine E.thenN ?_
      refine WC.cond rfl (fun c1 => ?_) (fun c1 => ?_)
      · refine WC.region ?_
        refine W.any (.move rfl) rfl rfl rfl ?_
        refine W.any (.move rfl) rfl rfl rfl ?_
        refine W.any (.addN (out) (x) (out + x) rfl rfl rfl rfl (Nat.mod_eq_of_lt (by omega))) rfl rfl rfl ?_
        refine W.any (.remN (out + x) (2305843009213688669) ((out + x) % 2305843009213688669) rfl rfl rfl rfl (by decide) (rfl)) rfl rfl rfl ?_
        refine W.any (.assign rfl) rfl rfl rfl ?_
        refine W.nil ?_
        refine E.thenN ?_
        refine WC.seq ?_
        refine WC.region ?_
        refine W.any (.move rfl) rfl rfl rfl ?_
        refine W.any (.move rfl) rfl rfl rfl ?_
        refine W.any (.addN (x) (x) (x + x) rfl rfl rfl rfl (Nat.mod_eq_of_lt (by omega))) rfl rfl rfl ?_
        refine W.any (.remN (x + x) (2305843009213688669) ((x + x) % 2305843009213688669) rfl rfl rfl rfl (by decide) (rfl)) rfl rfl rfl ?_
        refine W.any (.assign rfl) rfl rfl rfl ?_
        refine W.nil ?_
        refine E.thenN ?_
        refine WC.region ?_
        refine W.any (.move rfl) rfl rfl rfl ?_
        refine W.any (.quoN (y) (2) (y / 2) rfl rfl rfl rfl (by omega) (by omega) (rfl)) rfl rfl rfl ?_
        refine W.any (.assign rfl) rfl rfl rfl ?_
        refine W.nil ?_
        refine E.blkN ?_
        refine E.again ((x + x) % 2305843009213688669, y / 2, (out + x) % 2305843009213688669) (.cons rfl (.cons rfl (.cons rfl (.nil _)))) ?_ ?_
        · exact ⟨Ll, Nat.mod_lt _ (by decide), by omega, Nat.mod_lt _ (by decide), by rw [dbl1 _ x y out (by omega)]; exact hi⟩
        · first | omega | (simp only []; omega)
      · refine WC.skip ?_
        refine E.thenN ?_
        refine WC.seq ?_
        refine WC.region ?_
        refine W.any (.move rfl) rfl rfl rfl ?_
        refine W.any (.move rfl) rfl rfl rfl ?_
        refine W.any (.addN (x) (x) (x + x) rfl rfl rfl rfl (Nat.mod_eq_of_lt (by omega))) rfl rfl rfl ?_
        refine W.any (.remN (x + x) (2305843009213688669) ((x + x) % 2305843009213688669) rfl rfl rfl rfl (by decide) (rfl)) rfl rfl rfl ?_
        refine W.any (.assign rfl) rfl rfl rfl ?_
        refine W.nil ?_
        refine E.thenN ?_
        refine WC.region ?_
        refine W.any (.move rfl) rfl rfl rfl ?_
        refine W.any (.quoN (y) (2) (y / 2) rfl rfl rfl rfl (by omega) (by omega) (rfl)) rfl rfl rfl ?_
        refine W.any (.assign rfl) rfl rfl rfl ?_
        refine W.nil ?_
        refine E.blkN ?_
        refine E.again ((x + x) % 2305843009213688669, y / 2, out) (.cons rfl (.cons rfl (.cons rfl (.nil _)))) ?_ ?_
        · exact ⟨Ll, Nat.mod_lt _ (by decide), by omega, ho, by rw [dbl0 _ x y out (by omega)]; exact hi⟩
        · first | omega | (simp only []; omega)
    · have hy0 : y = 0 := by omega
      subst hy0
      rw [dbl_end _ _ _ ho] at hi
      refine WC.exit ?_
      refine E.thenX ?_
      refine E.thenX ?_
      refine E.blkH ?_
      refine E.thenN ?_
      refine WC.seq ?_
      refine WC.region ?_
      refine W.any (.move rfl) rfl rfl rfl ?_
      refine W.any (.assign rfl) rfl rfl rfl ?_
      refine W.nil ?_
      refine E.thenN ?_
      refine WC.ret ?_
      refine E.ret1 rfl rfl ?_
      exact ⟨by rw [hi]; rfl, Ll⟩

theorem rtimes_ok (a b : Nat) (ha : a < M) (hb : b < 18446744073709551616) (w : World) : Calls Try.prog 134 #[.int .u64 ((a : Nat) : Int), .int .u64 ((b : Nat) : Int)] w fun e w' => e = .returned (.int .u64 ((a * b % M : Nat) : Int)) ∧ Le w w' := by
  refine enter Try.func134 rfl rfl ?_
  have L0 := Le.refl w
  refine WC.seq ?_
  refine WC.region ?_
  refine W.any (.assign rfl) rfl rfl rfl ?_
  refine W.nil ?_
  refine E.thenN ?_
  refine WC.seq ?_
  refine WC.region ?_
  refine W.any (.assign rfl) rfl rfl rfl ?_
  refine W.nil ?_
  refine E.thenN ?_
  refine WC.seq ?_
  refine WC.block ?_
  refine WC.loop (ι := Nat × Nat × Nat) (fun ⟨x, y, out⟩ => [(0, .int .u64 ((x : Nat) : Int)), (1, .int .u64 ((y : Nat) : Int)), (5, .int .u64 ((out : Nat) : Int))]) (fun ⟨x, y, out⟩ wl => Le w wl ∧ x < 4611686018427377339 ∧ y < 18446744073709551616 ∧ out < 4611686018427377339 ∧ (out + x * y) % 4611686018427377339 = a * b % 4611686018427377339) (fun ⟨x, y, out⟩ => y) (a, b, 0) ?_ ?_ ?_
  · exact .cons rfl (.cons rfl (.cons rfl (.nil _)))
  · exact ⟨L0, ha, hb, by decide, by rw [Nat.zero_add]⟩
  · rintro ⟨x, y, out⟩ wl ⟨Ll, hx, hy, ho, hi⟩
    refine WC.seq ?_
    refine WC.seq ?_
    refine WC.region ?_
    refine W.any (.move rfl) rfl rfl rfl ?_
    refine W.any (.gtr rfl rfl) rfl rfl rfl ?_
    refine W.nil ?_
    refine E.thenN ?_
    refine WC.cond rfl (fun c0 => ?_) (fun c0 => ?_)
    · refine WC.skip ?_
      refine E.thenN ?_
      refine WC.block ?_
      refine WC.seq ?_
      refine WC.seq ?_
      refine WC.region ?_
      refine W.any (.move rfl) rfl rfl rfl ?_
      refine W.any (.remN (y) (2) (y % 2) rfl rfl rfl rfl (by decide) (rfl)) rfl rfl rfl ?_
      refine W.any (.eql rfl rfl) rfl rfl rfl ?_
      refine W.nil ?_
      refine E.thenN ?_
      refine WC.cond rfl (fun c1 => ?_) (fun c1 => ?_)
      · refine WC.region ?_
        refine W.any (.move rfl) rfl rfl rfl ?_
        refine W.any (.move rfl) rfl rfl rfl ?_
        refine W.any (.addN (out) (x) (out + x) rfl rfl rfl rfl (Nat.mod_eq_of_lt (by omega))) rfl rfl rfl ?_
        refine W.any (.remN (out + x) (4611686018427377339) ((out + x) % 4611686018427377339) rfl rfl rfl rfl (by decide) (rfl)) rfl rfl rfl ?_
        refine W.any (.assign rfl) rfl rfl rfl ?_
        refine W.nil ?_
        refine E.thenN ?_
        refine WC.seq ?_
        refine WC.region ?_
        refine W.any (.move rfl) rfl rfl rfl ?_
        refine W.any (.move rfl) rfl rfl rfl ?_
        refine W.any (.addN (x) (x) (x + x) rfl rfl rfl rfl (Nat.mod_eq_of_lt (by omega))) rfl rfl rfl ?_
        refine W.any (.remN (x + x) (4611686018427377339) ((x + x) % 4611686018427377339) rfl rfl rfl rfl (by decide) (rfl)) rfl rfl rfl ?_
        refine W.any (.assign rfl) rfl rfl rfl ?_
        refine W.nil ?_
        refine E.thenN ?_
        refine WC.region ?_
        refine W.any (.move rfl) rfl rfl rfl ?_
        refine W.any (.quoN (y) (2) (y / 2) rfl rfl rfl rfl (by omega) (by omega) (rfl)) rfl rfl rfl ?_
        refine W.any (.assign rfl) rfl rfl rfl ?_
        refine W.nil ?_
        refine E.blkN ?_
        refine E.again ((x + x) % 4611686018427377339, y / 2, (out + x) % 4611686018427377339) (.cons rfl (.cons rfl (.cons rfl (.nil _)))) ?_ ?_
        · exact ⟨Ll, Nat.mod_lt _ (by decide), by omega, Nat.mod_lt _ (by decide), by rw [dbl1 _ x y out (by omega)]; exact hi⟩
        · first | omega | (simp only []; omega)
      · refine WC.skip ?_
        refine E.thenN ?_
        refine WC.seq ?_
        refine WC.region ?_
        refine W.any (.move rfl) rfl rfl rfl ?_
        refine W.any (.move rfl) rfl rfl rfl ?_
        refine W.any (.addN (x) (x) (x + x) rfl rfl rfl rfl (Nat.mod_eq_of_lt (by omega))) rfl rfl rfl ?_
        refine W.any (.remN (x + x) (4611686018427377339) ((x + x) % 4611686018427377339) rfl rfl rfl rfl (by decide) (rfl)) rfl rfl rfl ?_
        refine W.any (.assign rfl) rfl rfl rfl ?_
        refine W.nil ?_
        refine E.thenN ?_
        refine WC.region ?_
        refine W.any (.move rfl) rfl rfl rfl ?_
        refine W.any (.quoN (y) (2) (y / 2) rfl rfl rfl rfl (by omega) (by omega) (rfl)) rfl rfl rfl ?_
        refine W.any (.assign rfl) rfl rfl rfl ?_
        refine W.nil ?_
        refine E.blkN ?_
        refine E.again ((x + x) % 4611686018427377339, y / 2, out) (.cons rfl (.cons rfl (.cons rfl (.nil _)))) ?_ ?_
        · exact ⟨Ll, Nat.mod_lt _ (by decide), by omega, ho, by rw [dbl0 _ x y out (by omega)]; exact hi⟩
        · first | omega | (simp only []; omega)
    · have hy0 : y = 0 := by omega
      subst hy0
      rw [dbl_end _ _ _ ho] at hi
      refine WC.exit ?_
      refine E.thenX ?_
      refine E.thenX ?_
      refine E.blkH ?_
      refine E.thenN ?_
      refine WC.seq ?_
      refine WC.region ?_
      refine W.any (.move rfl) rfl rfl rfl ?_
      refine W.any (.assign rfl) rfl rfl rfl ?_
      refine W.nil ?_
      refine E.thenN ?_
      refine WC.ret ?_
      refine E.ret1 rfl rfl ?_
      exact ⟨by rw [hi]; rfl, Ll⟩

theorem rpower_ok (a n : Nat) (ha : a < M) (hn : n < 18446744073709551616) (w : World) : Calls Try.prog 119 #[.int .u64 ((a : Nat) : Int), .int .u64 ((n : Nat) : Int)] w fun e w' => e = .returned (.int .u64 ((pw a n : Nat) : Int)) ∧ Le w w' := by
  refine enter Try.func119 rfl rfl ?_
  have L0 := Le.refl w
  refine WC.seq ?_
  refine WC.region ?_
  refine W.any (.assign rfl) rfl rfl rfl ?_
  refine W.nil ?_
  refine E.thenN ?_
  refine WC.seq ?_
  refine WC.region ?_
  refine W.any (.assign rfl) rfl rfl rfl ?_
  refine W.nil ?_
  refine E.thenN ?_
  refine WC.seq ?_
  refine WC.block ?_
  refine WC.loop (ι := Nat × Nat × Nat) (fun ⟨b, m, out⟩ => [(0, .int .u64 ((b : Nat) : Int)), (1, .int .u64 ((m : Nat) : Int)), (5, .int .u64 ((out : Nat) : Int))]) (fun ⟨b, m, out⟩ wl => Le w wl ∧ b < M ∧ m < 18446744073709551616 ∧ out < M ∧ out * b ^ m % M = pw a n) (fun ⟨b, m, out⟩ => m) (a, n, 1) ?_ ?_ ?_
  · exact .cons rfl (.cons rfl (.cons rfl (.nil _)))
  · exact ⟨L0, ha, hn, M_one, pw_start a n hn⟩
  · rintro ⟨b, m, out⟩ wl ⟨Ll, hb, hm, ho, hi⟩
    refine WC.seq ?_
    refine WC.seq ?_
    refine WC.region ?_
    refine W.any (.move rfl) rfl rfl rfl ?_
    refine W.any (.gtr rfl rfl) rfl rfl rfl ?_
    refine W.nil ?_
    refine E.thenN ?_
    refine WC.cond rfl (fun c0 => ?_) (fun c0 => ?_)
    · have hb2 : b < 18446744073709551616 := Nat.lt_trans hb (by decide)
      refine WC.skip ?_
      refine E.thenN ?_
      refine WC.block ?_
      refine WC.seq ?_
      refine WC.seq ?_
      refine WC.region ?_
      refine W.any (.move rfl) rfl rfl rfl ?_
      refine W.any (.remN (m) (2) (m % 2) rfl rfl rfl rfl (by decide) (rfl)) rfl rfl rfl ?_
      refine W.any (.eql rfl rfl) rfl rfl rfl ?_
      refine W.nil ?_
      refine E.thenN ?_
      refine WC.cond rfl (fun c1 => ?_) (fun c1 => ?_)
      · refine WC.region ?_
        refine W.any (.move rfl) rfl rfl rfl ?_
        refine W.any (.move rfl) rfl rfl rfl ?_
        refine W.ef rfl rfl rfl ?_
        refine Ef.call go134 rfl rfl (rtimes_ok out b ho hb2 wl) ?_
        rintro _ w4_2 ⟨rfl, h4_2⟩
        refine ⟨_, rfl, ?_⟩
        have L4_2 := Ll.trans h4_2
        refine W.any (.assign rfl) rfl rfl rfl ?_
        refine W.nil ?_
        refine E.thenN ?_
        refine WC.seq ?_
        refine WC.region ?_
        refine W.any (.move rfl) rfl rfl rfl ?_
        refine W.any (.move rfl) rfl rfl rfl ?_
        refine W.ef rfl rfl rfl ?_
        refine Ef.call go134 rfl rfl (rtimes_ok b b hb hb2 w4_2) ?_
        rintro _ w5_2 ⟨rfl, h5_2⟩
        refine ⟨_, rfl, ?_⟩
        have L5_2 := L4_2.trans h5_2
        refine W.any (.assign rfl) rfl rfl rfl ?_
        refine W.nil ?_
        refine E.thenN ?_
        refine WC.region ?_
        refine W.any (.move rfl) rfl rfl rfl ?_
        refine W.any (.quoN (m) (2) (m / 2) rfl rfl rfl rfl (by omega) (by omega) (rfl)) rfl rfl rfl ?_
        refine W.any (.assign rfl) rfl rfl rfl ?_
        refine W.nil ?_
        refine E.blkN ?_
        refine E.again (b * b % M, m / 2, out * b % M) (.cons rfl (.cons rfl (.cons rfl (.nil _)))) ?_ ?_
        · exact ⟨L5_2, Nat.mod_lt _ (by decide), by omega, Nat.mod_lt _ (by decide), by rw [step1 b m out (by omega)]; exact hi⟩
        · first | omega | (simp only []; omega)
      · refine WC.skip ?_
        refine E.thenN ?_
        refine WC.seq ?_
        refine WC.region ?_
        refine W.any (.move rfl) rfl rfl rfl ?_
        refine W.any (.move rfl) rfl rfl rfl ?_
        refine W.ef rfl rfl rfl ?_
        refine Ef.call go134 rfl rfl (rtimes_ok b b hb hb2 wl) ?_
        rintro _ w5_2 ⟨rfl, h5_2⟩
        refine ⟨_, rfl, ?_⟩
        have L5_2 := Ll.trans h5_2
        refine W.any (.assign rfl) rfl rfl rfl ?_
        refine W.nil ?_
        refine E.thenN ?_
        refine WC.region ?_
        refine W.any (.move rfl) rfl rfl rfl ?_
        refine W.any (.quoN (m) (2) (m / 2) rfl rfl rfl rfl (by omega) (by omega) (rfl)) rfl rfl rfl ?_
        refine W.any (.assign rfl) rfl rfl rfl ?_
        refine W.nil ?_
        refine E.blkN ?_
        refine E.again (b * b % M, m / 2, out) (.cons rfl (.cons rfl (.cons rfl (.nil _)))) ?_ ?_
        · exact ⟨L5_2, Nat.mod_lt _ (by decide), by omega, ho, by rw [step0 b m out (by omega)]; exact hi⟩
        · first | omega | (simp only []; omega)
    · have hm0 : m = 0 := by omega
      subst hm0
      rw [pw_end b out ho] at hi
      refine WC.exit ?_
      refine E.thenX ?_
      refine E.thenX ?_
      refine E.blkH ?_
      refine E.thenN ?_
      refine WC.seq ?_
      refine WC.region ?_
      refine W.any (.move rfl) rfl rfl rfl ?_
      refine W.any (.assign rfl) rfl rfl rfl ?_
      refine W.nil ?_
      refine E.thenN ?_
      refine WC.ret ?_
      refine E.ret1 rfl rfl ?_
      exact ⟨by rw [hi], Ll⟩

theorem rpright_ok (p : Nat) (hp : p < 18446744073709551616) (w : World) : Calls Try.prog 90 #[.int .u64 ((p : Nat) : Int)] w fun e w' => e = .returned (.bool (right p)) ∧ Le w w' := by
  refine enter Try.func90 rfl rfl ?_
  have L0 := Le.refl w
  refine WC.seq ?_
  refine WC.region ?_
  refine W.any (.assign rfl) rfl rfl rfl ?_
  refine W.nil ?_
  refine E.thenN ?_
  refine WC.seq ?_
  refine WC.region ?_
  refine W.any (.move rfl) rfl rfl rfl ?_
  by_cases h0 : 0 < p
  · refine W.any (.dec (.geq rfl rfl) (decide_eq_true (by omega))) rfl rfl rfl ?_
    refine W.any (.move rfl) rfl rfl rfl ?_
    refine W.rdg (Any.rd (.move rfl) _) rfl rfl rfl (rfl) rfl rfl ?_
    by_cases h1 : p < 4611686018427377339
    · refine W.rdg (Any.rd (.dec (.lss rfl rfl) (decide_eq_true (by omega))) _) rfl rfl rfl (rfl) rfl rfl ?_
      refine W.any (.pickT rfl rfl rfl) rfl rfl rfl ?_
      refine W.any (.move rfl) rfl rfl rfl ?_
      refine W.rdg (Any.rd (.move rfl) _) rfl rfl rfl (rfl) rfl rfl ?_
      refine W.efg rfl rfl rfl (rfl) rfl rfl ?_
      refine Ef.call go119 rfl rfl (rpower_ok p 2305843009213688669 h1 (by decide) w) ?_
      rintro _ w1_8 ⟨rfl, h1_8⟩
      refine ⟨_, rfl, ?_⟩
      have L1_8 := L0.trans h1_8
      refine W.rdg (Any.rd (.eql rfl rfl) _) rfl rfl rfl (rfl) rfl rfl ?_
      refine W.any (.pickT rfl rfl rfl) rfl rfl rfl ?_
      refine W.any (.assign rfl) rfl rfl rfl ?_
      refine W.nil ?_
      refine E.thenN ?_
      refine WC.ret ?_
      refine E.ret1 rfl rfl ?_
      exact ⟨by rw [right, decide_eq_true h0, decide_eq_true (show p < M from h1), Bool.true_and, Bool.true_and, ← dec1]; rfl, L1_8⟩
    · refine W.rdg (Any.rd (.dec (.lss rfl rfl) (decide_eq_false (by omega))) _) rfl rfl rfl (rfl) rfl rfl ?_
      refine W.any (.pickT rfl rfl rfl) rfl rfl rfl ?_
      refine W.any (.move rfl) rfl rfl rfl ?_
      refine W.skip rfl rfl rfl (rfl) rfl rfl ?_
      refine W.skip rfl rfl rfl (rfl) rfl rfl ?_
      refine W.skip rfl rfl rfl (rfl) rfl rfl ?_
      refine W.any (.pickF rfl rfl rfl) rfl rfl rfl ?_
      refine W.any (.assign rfl) rfl rfl rfl ?_
      refine W.nil ?_
      refine E.thenN ?_
      refine WC.ret ?_
      refine E.ret1 rfl rfl ?_
      exact ⟨by rw [right, decide_eq_false (show ¬ p < M from h1), Bool.and_false, Bool.false_and], L0⟩
  · refine W.any (.dec (.geq rfl rfl) (decide_eq_false (by omega))) rfl rfl rfl ?_
    refine W.any (.move rfl) rfl rfl rfl ?_
    refine W.skip rfl rfl rfl (rfl) rfl rfl ?_
    refine W.skip rfl rfl rfl (rfl) rfl rfl ?_
    refine W.any (.pickF rfl rfl rfl) rfl rfl rfl ?_
    refine W.any (.move rfl) rfl rfl rfl ?_
    refine W.skip rfl rfl rfl (rfl) rfl rfl ?_
    refine W.skip rfl rfl rfl (rfl) rfl rfl ?_
    refine W.skip rfl rfl rfl (rfl) rfl rfl ?_
    refine W.any (.pickF rfl rfl rfl) rfl rfl rfl ?_
    refine W.any (.assign rfl) rfl rfl rfl ?_
    refine W.nil ?_
    refine E.thenN ?_
    refine WC.ret ?_
    refine E.ret1 rfl rfl ?_
    exact ⟨by rw [right, decide_eq_false h0, Bool.false_and, Bool.false_and], L0⟩

theorem rtaken_ok (p : Nat) (hp : p < 18446744073709551616) (w : World) : Calls Try.prog 120 #[.int .u64 ((p : Nat) : Int)] w fun e w' => e = .returned (.int .u64 ((taken p : Nat) : Int)) ∧ Le w w' := by
  refine enter Try.func120 rfl rfl ?_
  have L0 := Le.refl w
  refine WC.seq ?_
  refine WC.region ?_
  refine W.any (.assign rfl) rfl rfl rfl ?_
  refine W.nil ?_
  refine E.thenN ?_
  refine WC.seq ?_
  refine WC.seq ?_
  refine WC.region ?_
  refine W.any (.move rfl) rfl rfl rfl ?_
  refine W.ef rfl rfl rfl ?_
  refine Ef.call go90 rfl rfl (rpright_ok p hp w) ?_
  rintro _ w1_1 ⟨rfl, h1_1⟩
  refine ⟨_, rfl, ?_⟩
  have L1_1 := L0.trans h1_1
  refine W.nil ?_
  refine E.thenN ?_
  refine WC.condB rfl (fun c0 => ?_) (fun c0 => ?_)
  · refine WC.seq ?_
    refine WC.region ?_
    refine W.any (.move rfl) rfl rfl rfl ?_
    refine W.any (.assign rfl) rfl rfl rfl ?_
    refine W.nil ?_
    refine E.thenN ?_
    refine WC.ret ?_
    refine E.thenR ?_
    refine E.ret1 rfl rfl ?_
    exact ⟨by rw [taken, if_pos c0], L1_1⟩
  · refine WC.skip ?_
    refine E.thenN ?_
    refine WC.seq ?_
    refine WC.region ?_
    refine W.any (.assign rfl) rfl rfl rfl ?_
    refine W.nil ?_
    refine E.thenN ?_
    refine WC.ret ?_
    refine E.ret1 rfl rfl ?_
    exact ⟨by rw [taken, if_neg (by rw [c0]; simp)]; rfl, L1_1⟩

theorem taken_M (p : Nat) : taken p < M := ((right_iff _).1 (right_taken p)).2.1

theorem rscale_ok (p k : Nat) (hp : p < 18446744073709551616) (w : World) : Calls Try.prog 92 #[.int .u64 ((p : Nat) : Int), .int .u64 ((k : Nat) : Int)] w fun e w' => e = .returned (.int .u64 ((scale p k : Nat) : Int)) ∧ Le w w' := by
  refine enter Try.func92 rfl rfl ?_
  have L0 := Le.refl w
  refine WC.seq ?_
  refine WC.region ?_
  refine W.any (.assign rfl) rfl rfl rfl ?_
  refine W.nil ?_
  refine E.thenN ?_
  refine WC.seq ?_
  refine WC.region ?_
  refine W.any (.move rfl) rfl rfl rfl ?_
  refine W.ef rfl rfl rfl ?_
  refine Ef.call go120 rfl rfl (rtaken_ok p hp w) ?_
  rintro _ w1_1 ⟨rfl, h1_1⟩
  refine ⟨_, rfl, ?_⟩
  have L1_1 := L0.trans h1_1
  refine W.any (.move rfl) rfl rfl rfl ?_
  refine W.any (.remN (k) (2305843009213688669) (k % 2305843009213688669) rfl rfl rfl rfl (by decide) (rfl)) rfl rfl rfl ?_
  refine W.ef rfl rfl rfl ?_
  refine Ef.call go119 rfl rfl (rpower_ok (taken p) (k % 2305843009213688669) (taken_M p) (by omega) w1_1) ?_
  rintro _ w1_4 ⟨rfl, h1_4⟩
  refine ⟨_, rfl, ?_⟩
  have L1_4 := L1_1.trans h1_4
  refine W.any (.assign rfl) rfl rfl rfl ?_
  refine W.nil ?_
  refine E.thenN ?_
  refine WC.ret ?_
  refine E.ret1 rfl rfl ?_
  exact ⟨rfl, L1_4⟩

theorem rbase_ok (k : Nat) (w : World) : Calls Try.prog 114 #[.int .u64 ((k : Nat) : Int)] w fun e w' => e = .returned (.int .u64 ((base k : Nat) : Int)) ∧ Le w w' := by
  refine enter Try.func114 rfl rfl ?_
  have L0 := Le.refl w
  refine WC.seq ?_
  refine WC.region ?_
  refine W.any (.assign rfl) rfl rfl rfl ?_
  refine W.nil ?_
  refine E.thenN ?_
  refine WC.seq ?_
  refine WC.region ?_
  refine W.any (.move rfl) rfl rfl rfl ?_
  refine W.ef rfl rfl rfl ?_
  refine Ef.call go92 rfl rfl (rscale_ok 4 k (by decide) w) ?_
  rintro _ w1_1 ⟨rfl, h1_1⟩
  refine ⟨_, rfl, ?_⟩
  have L1_1 := L0.trans h1_1
  refine W.any (.assign rfl) rfl rfl rfl ?_
  refine W.nil ?_
  refine E.thenN ?_
  refine WC.ret ?_
  refine E.ret1 rfl rfl ?_
  exact ⟨rfl, L1_1⟩

theorem rfrom_ok (h : List (BitVec 8)) (hh : h.length = 32) (w : World) : Calls Try.prog 113 #[.agg (h.map u8v).toArray] w fun e w' => e = .returned (.int .u64 ((fromB h : Nat) : Int)) ∧ Le w w' := by
  refine enter Try.func113 rfl rfl ?_
  have L0 := Le.refl w
  refine WC.seq ?_
  refine WC.region ?_
  refine W.ef rfl rfl rfl ?_
  refine Ef.boxA rfl ?_
  intro g0_0 w0_0 hg0_0 b0_0 h0_0
  have L0_0 := L0.trans h0_0
  refine W.any (.assign rfl) rfl rfl rfl ?_
  refine W.nil ?_
  refine E.thenN ?_
  refine WC.seq ?_
  refine WC.region ?_
  refine W.any (.assign rfl) rfl rfl rfl ?_
  refine W.nil ?_
  refine E.thenN ?_
  refine WC.seq ?_
  refine WC.seq ?_
  refine WC.region ?_
  refine W.any (.assign rfl) rfl rfl rfl ?_
  refine W.nil ?_
  refine E.thenN ?_
  refine WC.block ?_
  refine WC.loop (ι := Nat) (fun k => [(1, .pointer (some ⟨g0_0, 0, none⟩)), (3, .int .u64 ((fromTo 0 (h.take k) : Nat) : Int)), (4, .int .i64 (k : Int))]) (fun k wl => k ≤ 32 ∧ Le w0_0 wl) (fun k => 32 - k) 0 ?_ ?_ ?_
  · exact .cons rfl (.cons rfl (.cons rfl (.nil _)))
  · exact ⟨by omega, Le.refl _⟩
  · rintro k wl ⟨hk, Ll⟩
    have hlt : fromTo 0 (h.take k) < 2305843009213688668 := fromTo_lt _ 0 (by decide)
    refine WC.seq ?_
    refine WC.seq ?_
    refine WC.region ?_
    refine W.any (.move rfl) rfl rfl rfl ?_
    refine W.any (.lss rfl rfl) rfl rfl rfl ?_
    refine W.nil ?_
    refine E.thenN ?_
    refine WC.cond rfl (fun c0 => ?_) (fun c0 => ?_)
    · have hb : h[k]? = some (h.getD k 0) := by rw [List.getElem?_eq_getElem (by omega), List.getD_eq_getElem?_getD, List.getElem?_eq_getElem (by omega)]; rfl
      have hbl := (h.getD k 0).isLt
      refine WC.skip ?_
      refine E.thenN ?_
      refine WC.seq ?_
      refine WC.block ?_
      refine WC.seq ?_
      refine WC.region ?_
      refine W.any (.assign rfl) rfl rfl rfl ?_
      refine W.nil ?_
      refine E.thenN ?_
      refine WC.block ?_
      refine WC.loop (ι := Nat) (fun m => [(1, .pointer (some ⟨g0_0, 0, none⟩)), (3, .int .u64 ((bitsTo (fromTo 0 (h.take k)) ((h.getD k 0).toNat) m : Nat) : Int)), (4, .int .i64 (k : Int)), (5, .int .i64 ((m : Int) - 1))]) (fun m wm => m ≤ 8 ∧ Le w0_0 wm) (fun m => m) 8 ?_ ?_ ?_
      · exact .cons rfl (.cons' rfl (int_eq (congrArg Nat.cast (bits_start _ _ hlt hbl))) (.cons rfl (.cons rfl (.nil _))))
      · exact ⟨by omega, Ll⟩
      · rintro m wm ⟨hm, Lm⟩
        have hbt := bits_lt (fromTo 0 (h.take k)) ((h.getD k 0).toNat) m
        refine WC.seq ?_
        refine WC.seq ?_
        refine WC.region ?_
        refine W.any (.move rfl) rfl rfl rfl ?_
        refine W.any (.geq rfl rfl) rfl rfl rfl ?_
        refine W.nil ?_
        refine E.thenN ?_
        refine WC.cond rfl (fun c1 => ?_) (fun c1 => ?_)
        · have hm1 : 0 < m := by omega
          have hb1 : (h.getD k 0).toNat / 2 ^ (m - 1) % 2 < 2 := Nat.mod_lt _ (by decide)
          have hd1 : (h.getD k 0).toNat / 2 ^ (m - 1) ≤ (h.getD k 0).toNat := Nat.div_le_self _ _
          refine WC.skip ?_
          refine E.thenN ?_
          refine WC.seq ?_
          refine WC.block ?_
          refine WC.seq ?_
          refine WC.region ?_
          refine W.any (.move rfl) rfl rfl rfl ?_
          refine W.any (.idxA1 (k) Try.underlying23 sz5 rfl rfl (rfl) (by omega)) rfl rfl rfl ?_
          refine W.rd (.loadB na5 rfl (b0_0.le Lm) (getbA h (by omega))) rfl rfl rfl ?_
          refine W.rd (.u8to64 (isS Try.underlying5) Try.underlying47 rfl) rfl rfl rfl ?_
          refine W.any (.move rfl) rfl rfl rfl ?_
          refine W.rd (.convEq (isS Try.underlying3) Try.underlying143 rfl (IntWalk.u64_in _ (by omega))) rfl rfl rfl ?_
          refine W.any (.shrE ((h.getD k 0).toNat) (m - 1) ((h.getD k 0).toNat / 2 ^ (m - 1)) rfl rfl rfl (by omega) (by show m - 1 ≤ 64; omega) rfl) rfl rfl rfl ?_
          refine W.any (.andE ((h.getD k 0).toNat / 2 ^ (m - 1)) (1) ((h.getD k 0).toNat / 2 ^ (m - 1) % 2) rfl rfl rfl rfl (by omega) (by omega) (mask1 _)) rfl rfl rfl ?_
          refine W.any (.assign rfl) rfl rfl rfl ?_
          refine W.nil ?_
          refine E.thenN ?_
          refine WC.region ?_
          refine W.any (.move rfl) rfl rfl rfl ?_
          refine W.any (.mulN (2) (bitsTo (fromTo 0 (h.take k)) ((h.getD k 0).toNat) m) (2 * bitsTo (fromTo 0 (h.take k)) ((h.getD k 0).toNat) m) rfl rfl rfl rfl (by omega)) rfl rfl rfl ?_
          refine W.any (.move rfl) rfl rfl rfl ?_
          refine W.any (.addN (2 * bitsTo (fromTo 0 (h.take k)) ((h.getD k 0).toNat) m) ((h.getD k 0).toNat / 2 ^ (m - 1) % 2) (2 * bitsTo (fromTo 0 (h.take k)) ((h.getD k 0).toNat) m + (h.getD k 0).toNat / 2 ^ (m - 1) % 2) rfl rfl rfl rfl (by omega)) rfl rfl rfl ?_
          refine W.any (.remN (2 * bitsTo (fromTo 0 (h.take k)) ((h.getD k 0).toNat) m + (h.getD k 0).toNat / 2 ^ (m - 1) % 2) (2305843009213688668) ((2 * bitsTo (fromTo 0 (h.take k)) ((h.getD k 0).toNat) m + (h.getD k 0).toNat / 2 ^ (m - 1) % 2) % 2305843009213688668) rfl rfl rfl rfl (by decide) (rfl)) rfl rfl rfl ?_
          refine W.any (.assign rfl) rfl rfl rfl ?_
          refine W.nil ?_
          refine E.blkN ?_
          refine E.thenN ?_
          refine WC.region ?_
          refine W.any (.move rfl) rfl rfl rfl ?_
          refine W.any (.sub rfl rfl (by omega)) rfl rfl rfl ?_
          refine W.any (.assign rfl) rfl rfl rfl ?_
          refine W.nil ?_
          refine E.again (m - 1) (.cons rfl (.cons' rfl (int_eq (congrArg Nat.cast (bits_step _ _ m (by omega) hm))) (.cons rfl (.cons' rfl (int_eq (by omega)) (.nil _))))) ?_ ?_
          · exact ⟨by omega, Lm⟩
          · first | omega | (simp only []; omega)
        · have hm0 : m = 0 := by omega
          subst hm0
          refine WC.exit ?_
          refine E.thenX ?_
          refine E.thenX ?_
          refine E.blkH ?_
          refine E.blkN ?_
          refine E.thenN ?_
          refine WC.region ?_
          refine W.any (.move rfl) rfl rfl rfl ?_
          refine W.any (.add rfl rfl (by omega)) rfl rfl rfl ?_
          refine W.any (.assign rfl) rfl rfl rfl ?_
          refine W.nil ?_
          refine E.again (k + 1) (.cons rfl (.cons' rfl (int_eq (congrArg Nat.cast (by rw [fromTo_snoc h k 0 _ hb, bits_end]; rfl))) (.cons rfl (.nil _)))) ?_ ?_
          · exact ⟨by omega, Lm⟩
          · first | omega | (simp only []; omega)
    · have hk32 : k = 32 := by omega
      subst hk32
      refine WC.exit ?_
      refine E.thenX ?_
      refine E.thenX ?_
      refine E.blkH ?_
      refine E.thenN ?_
      refine WC.seq ?_
      refine WC.region ?_
      refine W.any (.move rfl) rfl rfl rfl ?_
      refine W.any (.addN (fromTo 0 (h.take 32)) (1) (fromTo 0 (h.take 32) + 1) rfl rfl rfl rfl (Nat.mod_eq_of_lt (by omega))) rfl rfl rfl ?_
      refine W.any (.assign rfl) rfl rfl rfl ?_
      refine W.nil ?_
      refine E.thenN ?_
      refine WC.ret ?_
      refine E.ret1 rfl rfl ?_
      exact ⟨by rw [fromB, List.take_of_length_le (by omega)], h0_0.trans Ll⟩
end Go.Proofs.Ytpmjdiccekkadaa
