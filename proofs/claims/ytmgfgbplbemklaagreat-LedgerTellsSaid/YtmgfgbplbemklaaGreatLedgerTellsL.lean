/- LedgerTells: for every input the law answers true and leaves its arguments as they were. -/
import Derived.Test.YtmgfgbplbemklaaGreatLedgerTellsK
import Derived.OrdersHeld
import Derived.WalkKit
import Derived.Deep.AppendSrc
import Derived.Deep.MidRow
import Derived.Laws.OwnMore
import Derived.WalkSpells
import Derived.Lib.ConvBytes
import Derived.Lib.AppendZerosOnto
import Derived.Laws.StructEq
import Derived.Maps.RangeRun
import Derived.Laws.Pointers
import Derived.Test.YtmgfgbplbemklaaGreatProg
import Derived.KernelRfl
import Derived.Lib.Mul64
namespace Go.Proofs.YtmgfgbplbemklaaGreat
open Go Go.Sx Go.Num
set_option maxRecDepth 20000
theorem dbl1 (D a n out : Nat) (h : n % 2 = 1) : ((out + a) % D + (a + a) % D * (n / 2)) % D = (out + a * n) % D := by
  have e : a * n = a + (a + a) * (n / 2) := by
    have hn2 : n = 2 * (n / 2) + 1 := by omega
    conv => lhs; rw [hn2]
    rw [Nat.mul_add, Nat.mul_one, ← Nat.mul_assoc, Nat.mul_two, Nat.add_comm]
  rw [e, ← Nat.add_assoc, Nat.add_mod, Nat.mod_mod, Nat.mul_mod, Nat.mod_mod, ← Nat.mul_mod, ← Nat.add_mod]
theorem dbl0 (D a n out : Nat) (h : ¬ n % 2 = 1) : (out + (a + a) % D * (n / 2)) % D = (out + a * n) % D := by
  have e : a * n = (a + a) * (n / 2) := by
    have hn2 : n = 2 * (n / 2) := by omega
    conv => lhs; rw [hn2]
    rw [← Nat.mul_assoc, Nat.mul_two]
  rw [e, Nat.add_mod, Nat.mul_mod, Nat.mod_mod, ← Nat.mul_mod, ← Nat.add_mod]
theorem dbl_end (D a out : Nat) (h : out < D) : (out + a * 0) % D = out := by rw [Nat.mul_zero, Nat.add_zero, Nat.mod_eq_of_lt h]
theorem rtimes_ok (a b : Nat) (ha : a < M) (hb : b < 18446744073709551616) (w : World) : Calls Tryz.prog 83 #[.int .u64 ((a : Nat) : Int), .int .u64 ((b : Nat) : Int)] w fun e w' => e = .returned (.int .u64 ((a * b % M : Nat) : Int)) ∧ Le w w' := by
 refine enter Tryz.func83 rfl rfl ?_
 have L0 := Le.refl w
 refine WC.seq (WC.region ?_)
 refine W.any (.assign rfl) rfl rfl rfl ?_
 refine W.nil (E.thenN (WC.seq (WC.region ?_)))
 refine W.any (.assign rfl) rfl rfl rfl ?_
 refine W.nil (E.thenN (WC.seq (WC.block ?_)))
 refine WC.loop (ι := Nat × Nat × Nat) (fun ⟨x, y, out⟩ => [(0, .int .u64 ((x : Nat) : Int)), (1, .int .u64 ((y : Nat) : Int)), (5, .int .u64 ((out : Nat) : Int))]) (fun ⟨x, y, out⟩ wl => Le w wl ∧ x < 4611686018427377339 ∧ y < 18446744073709551616 ∧ out < 4611686018427377339 ∧ (out + x * y) % 4611686018427377339 = a * b % 4611686018427377339) (fun ⟨x, y, out⟩ => y) (a, b, 0) ?_ ?_ ?_
 ·exact .cons rfl (.cons rfl (.cons rfl (.nil _)))
 ·exact ⟨L0, ha, hb, by decide, by rw [Nat.zero_add]⟩
 ·rintro ⟨x, y, out⟩ wl ⟨Ll, hx, hy, ho, hi⟩
  refine WC.seq (WC.seq (WC.region ?_))
  refine W.any (.move rfl) rfl rfl rfl ?_
  refine W.any (.gtr rfl rfl) rfl rfl rfl ?_
  refine W.nil (E.thenN ?_)
  refine WC.cond rfl (fun c0 => ?_) (fun c0 => ?_)
  ·refine WC.skip (E.thenN (WC.block (WC.seq (WC.seq (WC.region ?_)))))
   refine W.any (.move rfl) rfl rfl rfl ?_
   refine W.any (.remN (y) (2) (y % 2) rfl rfl rfl rfl (by decide) (rfl)) rfl rfl rfl ?_
   refine W.any (.eql rfl rfl) rfl rfl rfl ?_
   refine W.nil (E.thenN ?_)
   refine WC.cond rfl (fun c1 => ?_) (fun c1 => ?_)
   ·refine WC.region ?_
    refine W.any (.move rfl) rfl rfl rfl ?_
    refine W.any (.move rfl) rfl rfl rfl ?_
    refine W.any (.addN (out) (x) (out + x) rfl rfl rfl rfl (Nat.mod_eq_of_lt (by omega))) rfl rfl rfl ?_
    refine W.any (.remN (out + x) (4611686018427377339) ((out + x) % 4611686018427377339) rfl rfl rfl rfl (by decide) (rfl)) rfl rfl rfl ?_
    refine W.any (.assign rfl) rfl rfl rfl ?_
    refine W.nil (E.thenN (WC.seq (WC.region ?_)))
    refine W.any (.move rfl) rfl rfl rfl ?_
    refine W.any (.move rfl) rfl rfl rfl ?_
    refine W.any (.addN (x) (x) (x + x) rfl rfl rfl rfl (Nat.mod_eq_of_lt (by omega))) rfl rfl rfl ?_
    refine W.any (.remN (x + x) (4611686018427377339) ((x + x) % 4611686018427377339) rfl rfl rfl rfl (by decide) (rfl)) rfl rfl rfl ?_
    refine W.any (.assign rfl) rfl rfl rfl ?_
    refine W.nil (E.thenN (WC.region ?_))
    refine W.any (.move rfl) rfl rfl rfl ?_
    refine W.any (.quoN (y) (2) (y / 2) rfl rfl rfl rfl (by omega) (by omega) (rfl)) rfl rfl rfl ?_
    refine W.any (.assign rfl) rfl rfl rfl ?_
    refine W.nil (E.blkN ?_)
    refine E.again ((x + x) % 4611686018427377339, y / 2, (out + x) % 4611686018427377339) (.cons rfl (.cons rfl (.cons rfl (.nil _)))) ?_ ?_
    ·exact ⟨Ll, Nat.mod_lt _ (by decide), by omega, Nat.mod_lt _ (by decide), by rw [dbl1 _ x y out (by omega)]; exact hi⟩
    ·first | omega | (simp only []; omega)
   ·refine WC.skip (E.thenN (WC.seq (WC.region ?_)))
    refine W.any (.move rfl) rfl rfl rfl ?_
    refine W.any (.move rfl) rfl rfl rfl ?_
    refine W.any (.addN (x) (x) (x + x) rfl rfl rfl rfl (Nat.mod_eq_of_lt (by omega))) rfl rfl rfl ?_
    refine W.any (.remN (x + x) (4611686018427377339) ((x + x) % 4611686018427377339) rfl rfl rfl rfl (by decide) (rfl)) rfl rfl rfl ?_
    refine W.any (.assign rfl) rfl rfl rfl ?_
    refine W.nil (E.thenN (WC.region ?_))
    refine W.any (.move rfl) rfl rfl rfl ?_
    refine W.any (.quoN (y) (2) (y / 2) rfl rfl rfl rfl (by omega) (by omega) (rfl)) rfl rfl rfl ?_
    refine W.any (.assign rfl) rfl rfl rfl ?_
    refine W.nil (E.blkN ?_)
    refine E.again ((x + x) % 4611686018427377339, y / 2, out) (.cons rfl (.cons rfl (.cons rfl (.nil _)))) ?_ ?_
    ·exact ⟨Ll, Nat.mod_lt _ (by decide), by omega, ho, by rw [dbl0 _ x y out (by omega)]; exact hi⟩
    ·first | omega | (simp only []; omega)
  ·have hy0 : y = 0 := by omega
   subst hy0
   rw [dbl_end _ _ _ ho] at hi
   refine WC.exit (E.thenX (E.thenX (E.blkH (E.thenN (WC.seq (WC.region ?_))))))
   refine W.any (.move rfl) rfl rfl rfl ?_
   refine W.any (.assign rfl) rfl rfl rfl ?_
   refine W.nil (E.thenN (WC.ret ?_))
   refine E.ret1 rfl rfl ?_
   exact ⟨by rw [hi]; rfl, Ll⟩

theorem rpower_ok (a n : Nat) (ha : a < M) (hn : n < 18446744073709551616) (w : World) : Calls Tryz.prog 76 #[.int .u64 ((a : Nat) : Int), .int .u64 ((n : Nat) : Int)] w fun e w' => e = .returned (.int .u64 ((pw a n : Nat) : Int)) ∧ Le w w' := by
 refine enter Tryz.func76 rfl rfl ?_
 have L0 := Le.refl w
 refine WC.seq (WC.region ?_)
 refine W.any (.assign rfl) rfl rfl rfl ?_
 refine W.nil (E.thenN (WC.seq (WC.region ?_)))
 refine W.any (.assign rfl) rfl rfl rfl ?_
 refine W.nil (E.thenN (WC.seq (WC.block ?_)))
 refine WC.loop (ι := Nat × Nat × Nat) (fun ⟨b, m, out⟩ => [(0, .int .u64 ((b : Nat) : Int)), (1, .int .u64 ((m : Nat) : Int)), (5, .int .u64 ((out : Nat) : Int))]) (fun ⟨b, m, out⟩ wl => Le w wl ∧ b < M ∧ m < 18446744073709551616 ∧ out < M ∧ out * b ^ m % M = pw a n) (fun ⟨b, m, out⟩ => m) (a, n, 1) ?_ ?_ ?_
 ·exact .cons rfl (.cons rfl (.cons rfl (.nil _)))
 ·exact ⟨L0, ha, hn, M_one, pw_start a n hn⟩
 ·rintro ⟨b, m, out⟩ wl ⟨Ll, hb, hm, ho, hi⟩
  refine WC.seq (WC.seq (WC.region ?_))
  refine W.any (.move rfl) rfl rfl rfl ?_
  refine W.any (.gtr rfl rfl) rfl rfl rfl ?_
  refine W.nil (E.thenN ?_)
  refine WC.cond rfl (fun c0 => ?_) (fun c0 => ?_)
  ·have hb2 : b < 18446744073709551616 := Nat.lt_trans hb (by decide)
   refine WC.skip (E.thenN (WC.block (WC.seq (WC.seq (WC.region ?_)))))
   refine W.any (.move rfl) rfl rfl rfl ?_
   refine W.any (.remN (m) (2) (m % 2) rfl rfl rfl rfl (by decide) (rfl)) rfl rfl rfl ?_
   refine W.any (.eql rfl rfl) rfl rfl rfl ?_
   refine W.nil (E.thenN ?_)
   refine WC.cond rfl (fun c1 => ?_) (fun c1 => ?_)
   ·refine WC.region ?_
    refine W.any (.move rfl) rfl rfl rfl ?_
    refine W.any (.move rfl) rfl rfl rfl ?_
    refine W.ef rfl rfl rfl ?_
    refine Ef.call go83 rfl rfl (rtimes_ok out b ho hb2 wl) ?_
    rintro _ w4_2 ⟨rfl, h4_2⟩
    refine ⟨_, rfl, ?_⟩
    have L4_2 := Ll.trans h4_2
    refine W.any (.assign rfl) rfl rfl rfl ?_
    refine W.nil (E.thenN (WC.seq (WC.region ?_)))
    refine W.any (.move rfl) rfl rfl rfl ?_
    refine W.any (.move rfl) rfl rfl rfl ?_
    refine W.ef rfl rfl rfl ?_
    refine Ef.call go83 rfl rfl (rtimes_ok b b hb hb2 w4_2) ?_
    rintro _ w5_2 ⟨rfl, h5_2⟩
    refine ⟨_, rfl, ?_⟩
    have L5_2 := L4_2.trans h5_2
    refine W.any (.assign rfl) rfl rfl rfl ?_
    refine W.nil (E.thenN (WC.region ?_))
    refine W.any (.move rfl) rfl rfl rfl ?_
    refine W.any (.quoN (m) (2) (m / 2) rfl rfl rfl rfl (by omega) (by omega) (rfl)) rfl rfl rfl ?_
    refine W.any (.assign rfl) rfl rfl rfl ?_
    refine W.nil (E.blkN ?_)
    refine E.again (b * b % M, m / 2, out * b % M) (.cons rfl (.cons rfl (.cons rfl (.nil _)))) ?_ ?_
    ·exact ⟨L5_2, Nat.mod_lt _ (by decide), by omega, Nat.mod_lt _ (by decide), by rw [step1 b m out (by omega)]; exact hi⟩
    ·first | omega | (simp only []; omega)
   ·refine WC.skip (E.thenN (WC.seq (WC.region ?_)))
    refine W.any (.move rfl) rfl rfl rfl ?_
    refine W.any (.move rfl) rfl rfl rfl ?_
    refine W.ef rfl rfl rfl ?_
    refine Ef.call go83 rfl rfl (rtimes_ok b b hb hb2 wl) ?_
    rintro _ w5_2 ⟨rfl, h5_2⟩
    refine ⟨_, rfl, ?_⟩
    have L5_2 := Ll.trans h5_2
    refine W.any (.assign rfl) rfl rfl rfl ?_
    refine W.nil (E.thenN (WC.region ?_))
    refine W.any (.move rfl) rfl rfl rfl ?_
    refine W.any (.quoN (m) (2) (m / 2) rfl rfl rfl rfl (by omega) (by omega) (rfl)) rfl rfl rfl ?_
    refine W.any (.assign rfl) rfl rfl rfl ?_
    refine W.nil (E.blkN ?_)
    refine E.again (b * b % M, m / 2, out) (.cons rfl (.cons rfl (.cons rfl (.nil _)))) ?_ ?_
    ·exact ⟨L5_2, Nat.mod_lt _ (by decide), by omega, ho, by rw [step0 b m out (by omega)]; exact hi⟩
    ·first | omega | (simp only []; omega)
  ·have hm0 : m = 0 := by omega
   subst hm0
   rw [pw_end b out ho] at hi
   refine WC.exit (E.thenX (E.thenX (E.blkH (E.thenN (WC.seq (WC.region ?_))))))
   refine W.any (.move rfl) rfl rfl rfl ?_
   refine W.any (.assign rfl) rfl rfl rfl ?_
   refine W.nil (E.thenN (WC.ret ?_))
   refine E.ret1 rfl rfl ?_
   exact ⟨by rw [hi], Ll⟩

theorem rpright_ok (p : Nat) (hp : p < 18446744073709551616) (w : World) : Calls Tryz.prog 63 #[.int .u64 ((p : Nat) : Int)] w fun e w' => e = .returned (.bool (right p)) ∧ Le w w' := by
 refine enter Tryz.func63 rfl rfl ?_
 have L0 := Le.refl w
 refine WC.seq (WC.region ?_)
 refine W.any (.assign rfl) rfl rfl rfl ?_
 refine W.nil (E.thenN (WC.seq (WC.region ?_)))
 refine W.any (.move rfl) rfl rfl rfl ?_
 by_cases h0 : 0 < p
 ·refine W.any (.dec (.geq rfl rfl) (decide_eq_true (by omega))) rfl rfl rfl ?_
  refine W.any (.move rfl) rfl rfl rfl ?_
  refine W.rdg (Any.rd (.move rfl) _) rfl rfl rfl (rfl) rfl rfl ?_
  by_cases h1 : p < 4611686018427377339
  ·refine W.rdg (Any.rd (.dec (.lss rfl rfl) (decide_eq_true (by omega))) _) rfl rfl rfl (rfl) rfl rfl ?_
   refine W.any (.pickT rfl rfl rfl) rfl rfl rfl ?_
   refine W.any (.move rfl) rfl rfl rfl ?_
   refine W.rdg (Any.rd (.move rfl) _) rfl rfl rfl (rfl) rfl rfl ?_
   refine W.efg rfl rfl rfl (rfl) rfl rfl ?_
   refine Ef.call go76 rfl rfl (rpower_ok p 2305843009213688669 h1 (by decide) w) ?_
   rintro _ w1_8 ⟨rfl, h1_8⟩
   refine ⟨_, rfl, ?_⟩
   have L1_8 := L0.trans h1_8
   refine W.rdg (Any.rd (.eql rfl rfl) _) rfl rfl rfl (rfl) rfl rfl ?_
   refine W.any (.pickT rfl rfl rfl) rfl rfl rfl ?_
   refine W.any (.assign rfl) rfl rfl rfl ?_
   refine W.nil (E.thenN (WC.ret ?_))
   refine E.ret1 rfl rfl ?_
   exact ⟨by rw [right, decide_eq_true h0, decide_eq_true (show p < M from h1), Bool.true_and, Bool.true_and, ← dec1]; rfl, L1_8⟩
  ·refine W.rdg (Any.rd (.dec (.lss rfl rfl) (decide_eq_false (by omega))) _) rfl rfl rfl (rfl) rfl rfl ?_
   refine W.any (.pickT rfl rfl rfl) rfl rfl rfl ?_
   refine W.any (.move rfl) rfl rfl rfl ?_
   refine W.skip rfl rfl rfl (rfl) rfl rfl ?_
   refine W.skip rfl rfl rfl (rfl) rfl rfl ?_
   refine W.skip rfl rfl rfl (rfl) rfl rfl ?_
   refine W.any (.pickF rfl rfl rfl) rfl rfl rfl ?_
   refine W.any (.assign rfl) rfl rfl rfl ?_
   refine W.nil (E.thenN (WC.ret ?_))
   refine E.ret1 rfl rfl ?_
   exact ⟨by rw [right, decide_eq_false (show ¬ p < M from h1), Bool.and_false, Bool.false_and], L0⟩
 ·refine W.any (.dec (.geq rfl rfl) (decide_eq_false (by omega))) rfl rfl rfl ?_
  refine W.any (.move rfl) rfl rfl rfl ?_
  refine W.skip rfl rfl rfl (rfl) rfl rfl ?_
  refine W.skip rfl rfl rfl (rfl) rfl rfl ?_
  refine W.any (.pickF rfl rfl rfl) rfl rfl rfl ?_
  refine W.any (.move rfl) rfl rfl rfl ?_
  refine W.skip rfl rfl rfl (rfl) rfl rfl ?_
  refine W.skip rfl rfl rfl (rfl) rfl rfl ?_
  refine W.skip rfl rfl rfl (rfl) rfl rfl ?_
  refine W.any (.pickF rfl rfl rfl) rfl rfl rfl ?_
  refine W.any (.assign rfl) rfl rfl rfl ?_
  refine W.nil (E.thenN (WC.ret ?_))
  refine E.ret1 rfl rfl ?_
  exact ⟨by rw [right, decide_eq_false h0, Bool.false_and, Bool.false_and], L0⟩

theorem rtaken_ok (p : Nat) (hp : p < 18446744073709551616) (w : World) : Calls Tryz.prog 84 #[.int .u64 ((p : Nat) : Int)] w fun e w' => e = .returned (.int .u64 ((taken p : Nat) : Int)) ∧ Le w w' := by
 refine enter Tryz.func84 rfl rfl ?_
 have L0 := Le.refl w
 refine WC.seq (WC.region ?_)
 refine W.any (.assign rfl) rfl rfl rfl ?_
 refine W.nil (E.thenN (WC.seq (WC.seq (WC.region ?_))))
 refine W.any (.move rfl) rfl rfl rfl ?_
 refine W.ef rfl rfl rfl ?_
 refine Ef.call go63 rfl rfl (rpright_ok p hp w) ?_
 rintro _ w1_1 ⟨rfl, h1_1⟩
 refine ⟨_, rfl, ?_⟩
 have L1_1 := L0.trans h1_1
 refine W.nil (E.thenN ?_)
 refine WC.condB rfl (fun c0 => ?_) (fun c0 => ?_)
 ·refine WC.seq (WC.region ?_)
  refine W.any (.move rfl) rfl rfl rfl ?_
  refine W.any (.assign rfl) rfl rfl rfl ?_
  refine W.nil (E.thenN (WC.ret (E.thenR ?_)))
  refine E.ret1 rfl rfl ?_
  exact ⟨by rw [taken, if_pos c0], L1_1⟩
 ·refine WC.skip (E.thenN (WC.seq (WC.region ?_)))
  refine W.any (.assign rfl) rfl rfl rfl ?_
  refine W.nil (E.thenN (WC.ret ?_))
  refine E.ret1 rfl rfl ?_
  exact ⟨by rw [taken, if_neg (by rw [c0]; simp)]; rfl, L1_1⟩

theorem taken_M (p : Nat) : taken p < M := ((right_iff _).1 (right_taken p)).2.1

theorem rscale_ok (p k : Nat) (hp : p < 18446744073709551616) (w : World) : Calls Tryz.prog 77 #[.int .u64 ((p : Nat) : Int), .int .u64 ((k : Nat) : Int)] w fun e w' => e = .returned (.int .u64 ((scale p k : Nat) : Int)) ∧ Le w w' := by
 refine enter Tryz.func77 rfl rfl ?_
 have L0 := Le.refl w
 refine WC.seq (WC.region ?_)
 refine W.any (.assign rfl) rfl rfl rfl ?_
 refine W.nil (E.thenN (WC.seq (WC.region ?_)))
 refine W.any (.move rfl) rfl rfl rfl ?_
 refine W.ef rfl rfl rfl ?_
 refine Ef.call go84 rfl rfl (rtaken_ok p hp w) ?_
 rintro _ w1_1 ⟨rfl, h1_1⟩
 refine ⟨_, rfl, ?_⟩
 have L1_1 := L0.trans h1_1
 refine W.any (.move rfl) rfl rfl rfl ?_
 refine W.any (.remN (k) (2305843009213688669) (k % 2305843009213688669) rfl rfl rfl rfl (by decide) (rfl)) rfl rfl rfl ?_
 refine W.ef rfl rfl rfl ?_
 refine Ef.call go76 rfl rfl (rpower_ok (taken p) (k % 2305843009213688669) (taken_M p) (by omega) w1_1) ?_
 rintro _ w1_4 ⟨rfl, h1_4⟩
 refine ⟨_, rfl, ?_⟩
 have L1_4 := L1_1.trans h1_4
 refine W.any (.assign rfl) rfl rfl rfl ?_
 refine W.nil (E.thenN (WC.ret ?_))
 refine E.ret1 rfl rfl ?_
 exact ⟨rfl, L1_4⟩

theorem rbase_ok (k : Nat) (w : World) : Calls Tryz.prog 65 #[.int .u64 ((k : Nat) : Int)] w fun e w' => e = .returned (.int .u64 ((base k : Nat) : Int)) ∧ Le w w' := by
 refine enter Tryz.func65 rfl rfl ?_
 have L0 := Le.refl w
 refine WC.seq (WC.region ?_)
 refine W.any (.assign rfl) rfl rfl rfl ?_
 refine W.nil (E.thenN (WC.seq (WC.region ?_)))
 refine W.any (.move rfl) rfl rfl rfl ?_
 refine W.ef rfl rfl rfl ?_
 refine Ef.call go77 rfl rfl (rscale_ok 4 k (by decide) w) ?_
 rintro _ w1_1 ⟨rfl, h1_1⟩
 refine ⟨_, rfl, ?_⟩
 have L1_1 := L0.trans h1_1
 refine W.any (.assign rfl) rfl rfl rfl ?_
 refine W.nil (E.thenN (WC.ret ?_))
 refine E.ret1 rfl rfl ?_
 exact ⟨rfl, L1_1⟩


end Go.Proofs.YtmgfgbplbemklaaGreat

