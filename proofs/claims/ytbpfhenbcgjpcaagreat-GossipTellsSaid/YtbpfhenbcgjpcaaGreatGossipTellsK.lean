/- GossipTells: for every input the law answers true and leaves its arguments as they were. -/
import Derived.Test.YtbpfhenbcgjpcaaGreatGossipTellsJ
import Derived.OrdersHeld
import Derived.WalkKit
import Derived.Deep.AppendSrc
import Derived.Deep.MidRow
import Derived.Laws.OwnMore
import Derived.WalkSpells
import Derived.Lib.ConvBytes
import Derived.Lib.AppendZerosOnto
import Derived.Laws.StructEq
import Derived.Maps.RangeRun
import Derived.Laws.Pointers
import Derived.Test.YtbpfhenbcgjpcaaGreatProg
import Derived.KernelRfl
import Derived.Lib.Mul64
namespace Go.Proofs.YtbpfhenbcgjpcaaGreat
open Go Go.Sx
set_option maxRecDepth 20000
theorem mul64_ok (x y : Nat) (hx : x < 18446744073709551616) (hy : y < 18446744073709551616) (w : World) : Calls Tryz.prog 128 #[.int .u64 ((x : Nat) : Int), .int .u64 ((y : Nat) : Int)] w fun e w' => e = .returned (.tuple #[.int .u64 ((x * y / 18446744073709551616 : Nat) : Int), .int .u64 ((x * y % 18446744073709551616 : Nat) : Int)]) ∧ Le w w' := by
  obtain ⟨h1, h2, h3, h4⟩ := Go.Lib.mul64_hi x y hx hy
  have h5 : x * y / 18446744073709551616 < 18446744073709551616 := by
    rw [Nat.div_lt_iff_lt_mul (by decide)]
    exact Nat.mul_lt_mul'' hx hy
  have ha := Go.Lib.half_mul_le (a := x / 4294967296) (b := y / 4294967296) (by omega) (by omega)
  have hb := Go.Lib.half_mul_le (a := x / 4294967296) (b := y % 4294967296) (by omega) (by omega)
  have hc := Go.Lib.half_mul_le (a := x % 4294967296) (b := y / 4294967296) (by omega) (by omega)
  refine enter Tryz.func128 rfl rfl ?_
  have L0 := Le.refl w
  refine WC.seq ?_
  refine WC.region ?_
  refine W.any (.assign rfl) rfl rfl rfl ?_
  refine W.any (.assign rfl) rfl rfl rfl ?_
  refine W.nil ?_
  refine E.thenN ?_
  refine WC.seq ?_
  refine WC.region ?_
  refine W.any (.move rfl) rfl rfl rfl ?_
  refine W.any (.andE (x) (4294967295) (x % 4294967296) rfl rfl rfl rfl (by omega) (by omega) (mask32 _)) rfl rfl rfl ?_
  refine W.any (.assign rfl) rfl rfl rfl ?_
  refine W.nil ?_
  refine E.thenN ?_
  refine WC.seq ?_
  refine WC.region ?_
  refine W.any (.move rfl) rfl rfl rfl ?_
  refine W.any (.shrE (x) (32) (x / 4294967296) rfl rfl rfl rfl (by decide) (rfl)) rfl rfl rfl ?_
  refine W.any (.assign rfl) rfl rfl rfl ?_
  refine W.nil ?_
  refine E.thenN ?_
  refine WC.seq ?_
  refine WC.region ?_
  refine W.any (.move rfl) rfl rfl rfl ?_
  refine W.any (.andE (y) (4294967295) (y % 4294967296) rfl rfl rfl rfl (by omega) (by omega) (mask32 _)) rfl rfl rfl ?_
  refine W.any (.assign rfl) rfl rfl rfl ?_
  refine W.nil ?_
  refine E.thenN ?_
  refine WC.seq ?_
  refine WC.region ?_
  refine W.any (.move rfl) rfl rfl rfl ?_
  refine W.any (.shrE (y) (32) (y / 4294967296) rfl rfl rfl rfl (by decide) (rfl)) rfl rfl rfl ?_
  refine W.any (.assign rfl) rfl rfl rfl ?_
  refine W.nil ?_
  refine E.thenN ?_
  refine WC.seq ?_
  refine WC.region ?_
  refine W.any (.move rfl) rfl rfl rfl ?_
  refine W.any (.move rfl) rfl rfl rfl ?_
  refine W.any (.mulN (x % 4294967296) (y % 4294967296) ((x % 4294967296) * (y % 4294967296)) rfl rfl rfl rfl (Nat.mod_eq_of_lt h1)) rfl rfl rfl ?_
  refine W.any (.assign rfl) rfl rfl rfl ?_
  refine W.nil ?_
  refine E.thenN ?_
  refine WC.seq ?_
  refine WC.region ?_
  refine W.any (.move rfl) rfl rfl rfl ?_
  refine W.any (.move rfl) rfl rfl rfl ?_
  refine W.any (.mulN (x / 4294967296) (y % 4294967296) ((x / 4294967296) * (y % 4294967296)) rfl rfl rfl rfl (Nat.mod_eq_of_lt (by omega))) rfl rfl rfl ?_
  refine W.any (.move rfl) rfl rfl rfl ?_
  refine W.any (.shrE ((x % 4294967296) * (y % 4294967296)) (32) ((x % 4294967296) * (y % 4294967296) / 4294967296) rfl rfl rfl rfl (by decide) (rfl)) rfl rfl rfl ?_
  refine W.any (.addN ((x / 4294967296) * (y % 4294967296)) ((x % 4294967296) * (y % 4294967296) / 4294967296) ((x / 4294967296) * (y % 4294967296) + (x % 4294967296) * (y % 4294967296) / 4294967296) rfl rfl rfl rfl (Nat.mod_eq_of_lt h2)) rfl rfl rfl ?_
  refine W.any (.assign rfl) rfl rfl rfl ?_
  refine W.nil ?_
  refine E.thenN ?_
  refine WC.seq ?_
  refine WC.region ?_
  refine W.any (.move rfl) rfl rfl rfl ?_
  refine W.any (.andE ((x / 4294967296) * (y % 4294967296) + (x % 4294967296) * (y % 4294967296) / 4294967296) (4294967295) (((x / 4294967296) * (y % 4294967296) + (x % 4294967296) * (y % 4294967296) / 4294967296) % 4294967296) rfl rfl rfl rfl (by omega) (by omega) (mask32 _)) rfl rfl rfl ?_
  refine W.any (.assign rfl) rfl rfl rfl ?_
  refine W.nil ?_
  refine E.thenN ?_
  refine WC.seq ?_
  refine WC.region ?_
  refine W.any (.move rfl) rfl rfl rfl ?_
  refine W.any (.shrE ((x / 4294967296) * (y % 4294967296) + (x % 4294967296) * (y % 4294967296) / 4294967296) (32) (((x / 4294967296) * (y % 4294967296) + (x % 4294967296) * (y % 4294967296) / 4294967296) / 4294967296) rfl rfl rfl rfl (by decide) (rfl)) rfl rfl rfl ?_
  refine W.any (.assign rfl) rfl rfl rfl ?_
  refine W.nil ?_
  refine E.thenN ?_
  refine WC.seq ?_
  refine WC.region ?_
  refine W.any (.move rfl) rfl rfl rfl ?_
  refine W.any (.move rfl) rfl rfl rfl ?_
  refine W.any (.move rfl) rfl rfl rfl ?_
  refine W.any (.mulN (x % 4294967296) (y / 4294967296) ((x % 4294967296) * (y / 4294967296)) rfl rfl rfl rfl (Nat.mod_eq_of_lt (by omega))) rfl rfl rfl ?_
  refine W.any (.addN (((x / 4294967296) * (y % 4294967296) + (x % 4294967296) * (y % 4294967296) / 4294967296) % 4294967296) ((x % 4294967296) * (y / 4294967296)) (((x / 4294967296) * (y % 4294967296) + (x % 4294967296) * (y % 4294967296) / 4294967296) % 4294967296 + (x % 4294967296) * (y / 4294967296)) rfl rfl rfl rfl (Nat.mod_eq_of_lt h3)) rfl rfl rfl ?_
  refine W.any (.assign rfl) rfl rfl rfl ?_
  refine W.nil ?_
  refine E.thenN ?_
  refine WC.seq ?_
  refine WC.region ?_
  refine W.any (.move rfl) rfl rfl rfl ?_
  refine W.any (.move rfl) rfl rfl rfl ?_
  refine W.any (.mulN (x / 4294967296) (y / 4294967296) ((x / 4294967296) * (y / 4294967296)) rfl rfl rfl rfl (Nat.mod_eq_of_lt (by omega))) rfl rfl rfl ?_
  refine W.any (.move rfl) rfl rfl rfl ?_
  refine W.any (.addN ((x / 4294967296) * (y / 4294967296)) (((x / 4294967296) * (y % 4294967296) + (x % 4294967296) * (y % 4294967296) / 4294967296) / 4294967296) ((x / 4294967296) * (y / 4294967296) + ((x / 4294967296) * (y % 4294967296) + (x % 4294967296) * (y % 4294967296) / 4294967296) / 4294967296) rfl rfl rfl rfl (Nat.mod_eq_of_lt (by omega))) rfl rfl rfl ?_
  refine W.any (.move rfl) rfl rfl rfl ?_
  refine W.any (.shrE (((x / 4294967296) * (y % 4294967296) + (x % 4294967296) * (y % 4294967296) / 4294967296) % 4294967296 + (x % 4294967296) * (y / 4294967296)) (32) ((((x / 4294967296) * (y % 4294967296) + (x % 4294967296) * (y % 4294967296) / 4294967296) % 4294967296 + (x % 4294967296) * (y / 4294967296)) / 4294967296) rfl rfl rfl rfl (by decide) (rfl)) rfl rfl rfl ?_
  refine W.any (.addN ((x / 4294967296) * (y / 4294967296) + ((x / 4294967296) * (y % 4294967296) + (x % 4294967296) * (y % 4294967296) / 4294967296) / 4294967296) ((((x / 4294967296) * (y % 4294967296) + (x % 4294967296) * (y % 4294967296) / 4294967296) % 4294967296 + (x % 4294967296) * (y / 4294967296)) / 4294967296) (x * y / 18446744073709551616) rfl rfl rfl rfl ((Nat.mod_eq_of_lt (by rw [h4]; exact h5)).trans h4)) rfl rfl rfl ?_
  refine W.any (.assign rfl) rfl rfl rfl ?_
  refine W.nil ?_
  refine E.thenN ?_
  refine WC.seq ?_
  refine WC.region ?_
  refine W.any (.move rfl) rfl rfl rfl ?_
  refine W.any (.move rfl) rfl rfl rfl ?_
  refine W.any (.mulN (x) (y) (x * y % 18446744073709551616) rfl rfl rfl rfl (rfl)) rfl rfl rfl ?_
  refine W.any (.assign rfl) rfl rfl rfl ?_
  refine W.nil ?_
  refine E.thenN ?_
  refine WC.ret ?_
  refine E.ret2 rfl rfl rfl ?_
  exact ⟨rfl, L0⟩

def tab8 : ByteArray := ⟨[0, 1, 2, 2, 3, 3, 3, 3, 4, 4, 4, 4, 4, 4, 4, 4, 5, 5, 5, 5, 5, 5, 5, 5, 5, 5, 5, 5, 5, 5, 5, 5, 6, 6, 6, 6, 6, 6, 6, 6, 6, 6, 6, 6, 6, 6, 6, 6, 6, 6, 6, 6, 6, 6, 6, 6, 6, 6, 6, 6, 6, 6, 6, 6, 7, 7, 7, 7, 7, 7, 7, 7, 7, 7, 7, 7, 7, 7, 7, 7, 7, 7, 7, 7, 7, 7, 7, 7, 7, 7, 7, 7, 7, 7, 7, 7, 7, 7, 7, 7, 7, 7, 7, 7, 7, 7, 7, 7, 7, 7, 7, 7, 7, 7, 7, 7, 7, 7, 7, 7, 7, 7, 7, 7, 7, 7, 7, 7, 8, 8, 8, 8, 8, 8, 8, 8, 8, 8, 8, 8, 8, 8, 8, 8, 8, 8, 8, 8, 8, 8, 8, 8, 8, 8, 8, 8, 8, 8, 8, 8, 8, 8, 8, 8, 8, 8, 8, 8, 8, 8, 8, 8, 8, 8, 8, 8, 8, 8, 8, 8, 8, 8, 8, 8, 8, 8, 8, 8, 8, 8, 8, 8, 8, 8, 8, 8, 8, 8, 8, 8, 8, 8, 8, 8, 8, 8, 8, 8, 8, 8, 8, 8, 8, 8, 8, 8, 8, 8, 8, 8, 8, 8, 8, 8, 8, 8, 8, 8, 8, 8, 8, 8, 8, 8, 8, 8, 8, 8, 8, 8, 8, 8, 8, 8, 8, 8, 8, 8, 8, 8, 8, 8, 8, 8, 8, 8].toArray⟩

theorem len8 : ∀ m, 16 ≤ m → m < 64 → tab8[m]? = some (if m < 32 then 5 else 6) := by
  have h : ∀ m : Fin 64, 16 ≤ m.val → tab8[m.val]? = some (if m.val < 32 then 5 else 6) := by decide +kernel
  exact fun m h1 h2 => h ⟨m, h2⟩ h1

theorem len64_ok (y : Nat) (h1 : 1152921504606846976 ≤ y) (h2 : y < 4611686018427387904) (w : World) : Calls Tryz.prog 101 #[.int .u64 ((y : Nat) : Int)] w fun e w' => e = .returned (.int .i64 (if y < 2305843009213693952 then 61 else 62)) ∧ Le w w' := by
  refine enter Tryz.func101 rfl rfl ?_
  have L0 := Le.refl w
  refine WC.seq ?_
  refine WC.region ?_
  refine W.any (.assign rfl) rfl rfl rfl ?_
  refine W.nil ?_
  refine E.thenN ?_
  refine WC.seq ?_
  refine WC.seq ?_
  refine WC.region ?_
  refine W.any (.move rfl) rfl rfl rfl ?_
  refine W.any (.geq rfl rfl) rfl rfl rfl ?_
  refine W.nil ?_
  refine E.thenN ?_
  refine WC.condB rfl (fun _ => ?_) (fun h => absurd h (by simp; omega))
  refine WC.seq ?_
  refine WC.region ?_
  refine W.any (.move rfl) rfl rfl rfl ?_
  refine W.any (.shrE (y) (32) (y / 4294967296) rfl rfl rfl rfl (by decide) (rfl)) rfl rfl rfl ?_
  refine W.any (.assign rfl) rfl rfl rfl ?_
  refine W.nil ?_
  refine E.thenN ?_
  refine WC.region ?_
  refine W.any (.assign rfl) rfl rfl rfl ?_
  refine W.nil ?_
  refine E.thenN ?_
  refine WC.seq ?_
  refine WC.seq ?_
  refine WC.region ?_
  refine W.any (.move rfl) rfl rfl rfl ?_
  refine W.any (.geq rfl rfl) rfl rfl rfl ?_
  refine W.nil ?_
  refine E.thenN ?_
  refine WC.condB rfl (fun _ => ?_) (fun h => absurd h (by simp; omega))
  refine WC.seq ?_
  refine WC.region ?_
  refine W.any (.move rfl) rfl rfl rfl ?_
  refine W.any (.shrE (y / 4294967296) (16) (y / 281474976710656) rfl rfl rfl rfl (by decide) (by omega)) rfl rfl rfl ?_
  refine W.any (.assign rfl) rfl rfl rfl ?_
  refine W.nil ?_
  refine E.thenN ?_
  refine WC.region ?_
  refine W.any (.move rfl) rfl rfl rfl ?_
  refine W.any (.add rfl rfl (by omega)) rfl rfl rfl ?_
  refine W.any (.assign rfl) rfl rfl rfl ?_
  refine W.nil ?_
  refine E.thenN ?_
  refine WC.seq ?_
  refine WC.seq ?_
  refine WC.region ?_
  refine W.any (.move rfl) rfl rfl rfl ?_
  refine W.any (.geq rfl rfl) rfl rfl rfl ?_
  refine W.nil ?_
  refine E.thenN ?_
  refine WC.condB rfl (fun _ => ?_) (fun h => absurd h (by simp; omega))
  refine WC.seq ?_
  refine WC.region ?_
  refine W.any (.move rfl) rfl rfl rfl ?_
  refine W.any (.shrE (y / 281474976710656) (8) (y / 72057594037927936) rfl rfl rfl rfl (by decide) (by omega)) rfl rfl rfl ?_
  refine W.any (.assign rfl) rfl rfl rfl ?_
  refine W.nil ?_
  refine E.thenN ?_
  refine WC.region ?_
  refine W.any (.move rfl) rfl rfl rfl ?_
  refine W.any (.add rfl rfl (by omega)) rfl rfl rfl ?_
  refine W.any (.assign rfl) rfl rfl rfl ?_
  refine W.nil ?_
  refine E.thenN ?_
  refine WC.seq ?_
  refine WC.region ?_
  refine W.any (.move rfl) rfl rfl rfl ?_
  refine W.any (.move rfl) rfl rfl rfl ?_
  refine W.rd (.toU8 (y / 72057594037927936) (isS Tryz.underlying28) Tryz.underlying5 rfl rfl) rfl rfl rfl ?_
  refine W.any (.idxStr (y / 72057594037927936) (if y / 72057594037927936 < 32 then 5 else 6) Tryz.underlying9 rfl rfl (by rw [BitVec.toNat_ofNat, Nat.mod_eq_of_lt (by omega)]) (len8 (y / 72057594037927936) (by omega) (by omega))) rfl rfl rfl ?_
  refine W.rd (.idI (isS Tryz.underlying5) Tryz.underlying3 rfl (IntWalk.i64_in _ (by split <;> decide))) rfl rfl rfl ?_
  refine W.any (.add rfl rfl (by split <;> decide)) rfl rfl rfl ?_
  refine W.any (.assign rfl) rfl rfl rfl ?_
  refine W.nil ?_
  refine E.thenN ?_
  refine WC.ret ?_
  refine E.ret1 rfl rfl ?_
  exact ⟨by congr 2; split <;> split <;> simp_all <;> omega, L0⟩

theorem lz64_ok (y : Nat) (h1 : 1152921504606846976 ≤ y) (h2 : y < 4611686018427387904) (w : World) : Calls Tryz.prog 130 #[.int .u64 ((y : Nat) : Int)] w fun e w' => e = .returned (.int .i64 (if y < 2305843009213693952 then 3 else 2)) ∧ Le w w' := by
  refine enter Tryz.func130 rfl rfl ?_
  have L0 := Le.refl w
  refine WC.seq ?_
  refine WC.region ?_
  refine W.any (.assign rfl) rfl rfl rfl ?_
  refine W.nil ?_
  refine E.thenN ?_
  refine WC.seq ?_
  refine WC.region ?_
  refine W.any (.move rfl) rfl rfl rfl ?_
  refine W.ef rfl rfl rfl ?_
  refine Ef.call go101 rfl rfl (len64_ok y h1 h2 w) ?_
  rintro _ w1_1 ⟨rfl, h1_1⟩
  refine ⟨_, rfl, ?_⟩
  have L1_1 := L0.trans h1_1
  refine W.any (.sub rfl rfl (by split <;> omega)) rfl rfl rfl ?_
  refine W.any (.assign rfl) rfl rfl rfl ?_
  refine W.nil ?_
  refine E.thenN ?_
  refine WC.ret ?_
  refine E.ret1 rfl rfl ?_
  exact ⟨by congr 2; split <;> rfl, L1_1⟩

theorem div64_ok2 (h l y : Nat) (h1 : 2305843009213693952 ≤ y) (h2 : y < 4611686018427387904) (hh : h < y) (hl : l < 18446744073709551616) (w : World) : Calls Tryz.prog 116 #[.int .u64 ((h : Nat) : Int), .int .u64 ((l : Nat) : Int), .int .u64 ((y : Nat) : Int)] w fun e w' => ∃ qq : Int, e = .returned (.tuple #[.int .u64 qq, .int .u64 (((h * 18446744073709551616 + l) % y : Nat) : Int)]) ∧ Le w w' := by
  obtain ⟨Y, hYd⟩ : ∃ Y, Y = y * 4 := ⟨_, rfl⟩
  obtain ⟨a, ha⟩ : ∃ a, a = Y / 4294967296 := ⟨_, rfl⟩
  obtain ⟨b, hb0⟩ : ∃ b, b = Y % 4294967296 := ⟨_, rfl⟩
  obtain ⟨U, hUd⟩ : ∃ U, U = h * 4 + l / 4611686018427387904 := ⟨_, rfl⟩
  obtain ⟨v, hv⟩ : ∃ v, v = l * 4 % 18446744073709551616 := ⟨_, rfl⟩
  obtain ⟨e1, he1⟩ : ∃ e1, e1 = v / 4294967296 := ⟨_, rfl⟩
  obtain ⟨e0, he0⟩ : ∃ e0, e0 = v % 4294967296 := ⟨_, rfl⟩
  have hY : Y = a * 4294967296 + b := by omega
  have hYlo : 9223372036854775808 ≤ Y := by omega
  have hYhi : Y < 18446744073709551616 := by omega
  have ha1 : 2147483648 ≤ a := by omega
  have ha2 : a < 4294967296 := by omega
  have hb1 : b < 4294967296 := by omega
  have hv2 : v < 18446744073709551616 := by omega
  have he12 : e1 < 4294967296 := by omega
  have he02 : e0 < 4294967296 := by omega
  have hU : U < Y := by omega
  obtain ⟨R, hR⟩ : ∃ R, R = (U * 4294967296 + e1) % Y := ⟨_, rfl⟩
  obtain ⟨Q1, hQ1⟩ : ∃ Q1, Q1 = (U * 4294967296 + e1) / Y := ⟨_, rfl⟩
  obtain ⟨Q2, hQ2⟩ : ∃ Q2, Q2 = (R * 4294967296 + e0) / Y := ⟨_, rfl⟩
  have hRY : R < Y := by rw [hR]; exact Nat.mod_lt _ (by omega)
  have hfin : (R * 4294967296 + e0) % Y / 2 ^ 2 = (h * 18446744073709551616 + l) % y := div_fin2 h l y Y U v e1 e0 R hYd hUd hv he1 he0 hR (by omega)
  have hlz : ∀ w, Calls Tryz.prog 130 #[.int .u64 ((y : Nat) : Int)] w (fun e w' => e = .returned (.int .i64 2) ∧ Le w w') := fun w => by
    have := lz64_ok y (by omega) (by omega) w
    rw [if_neg (by omega)] at this
    exact this
  refine enter Tryz.func116 rfl rfl ?_
  have L0 := Le.refl w
  refine WC.seq ?_
  refine WC.region ?_
  refine W.any (.assign rfl) rfl rfl rfl ?_
  refine W.any (.assign rfl) rfl rfl rfl ?_
  refine W.nil ?_
  refine E.thenN ?_
  refine WC.seq ?_
  refine WC.seq ?_
  refine WC.region ?_
  refine W.any (.move rfl) rfl rfl rfl ?_
  refine W.any (.eql rfl rfl) rfl rfl rfl ?_
  refine W.nil ?_
  refine E.thenN ?_
  refine WC.condB rfl (fun h => absurd h (by simp; omega)) (fun _ => ?_)
  refine WC.skip ?_
  refine E.thenN ?_
  refine WC.seq ?_
  refine WC.seq ?_
  refine WC.region ?_
  refine W.any (.move rfl) rfl rfl rfl ?_
  refine W.any (.move rfl) rfl rfl rfl ?_
  refine W.any (.leq rfl rfl) rfl rfl rfl ?_
  refine W.nil ?_
  refine E.thenN ?_
  refine WC.condB rfl (fun h => absurd h (by simp; omega)) (fun _ => ?_)
  refine WC.skip ?_
  refine E.thenN ?_
  refine WC.seq ?_
  refine WC.seq ?_
  refine WC.region ?_
  refine W.any (.move rfl) rfl rfl rfl ?_
  refine W.any (.eql rfl rfl) rfl rfl rfl ?_
  refine W.nil ?_
  refine E.thenN ?_
  refine WC.cond rfl (fun c2 => ?_) (fun c2 => ?_)
  · have h0 : h = 0 := by omega
    subst h0
    refine WC.seq ?_
    refine WC.draw [0, 1, 2, 3, 4, 5, 6, 7] mixed (by kernel_rfl) ?_
    intro w6 d6
    have L6 := L0.trans d6
    refine G.any rfl rfl (.move rfl) rfl rfl rfl ?_
    refine G.any rfl rfl (.move rfl) rfl rfl rfl ?_
    refine G.any rfl rfl (.quoN (l) (y) (l / y) rfl rfl rfl rfl (by omega) (by omega) (rfl)) rfl rfl rfl ?_
    refine G.any rfl rfl (.move rfl) rfl rfl rfl ?_
    refine G.any rfl rfl (.move rfl) rfl rfl rfl ?_
    refine G.any rfl rfl (.remN (l) (y) (l % y) rfl rfl rfl rfl (by omega) (rfl)) rfl rfl rfl ?_
    refine G.any rfl rfl (.assign rfl) rfl rfl rfl ?_
    refine G.any rfl rfl (.assign rfl) rfl rfl rfl ?_
    refine G.nil ?_
    refine E.thenN ?_
    refine WC.ret ?_
    refine E.thenR ?_
    refine E.ret2 rfl rfl rfl ?_
    exact ⟨_, by rw [Nat.zero_mul, Nat.zero_add], L6⟩
  · refine WC.skip ?_
    refine E.thenN ?_
    refine WC.seq ?_
    refine WC.region ?_
    refine W.any (.move rfl) rfl rfl rfl ?_
    refine W.ef rfl rfl rfl ?_
    refine Ef.call go130 rfl rfl (hlz w) ?_
    rintro _ w7_1 ⟨rfl, h7_1⟩
    refine ⟨_, rfl, ?_⟩
    have L7_1 := L0.trans h7_1
    refine W.rd (.idI (isS Tryz.underlying3) Tryz.underlying100 rfl (IntWalk.u64_in _ (by decide))) rfl rfl rfl ?_
    refine W.any (.assign rfl) rfl rfl rfl ?_
    refine W.nil ?_
    refine E.thenN ?_
    refine WC.seq ?_
    refine WC.region ?_
    refine W.any (.move rfl) rfl rfl rfl ?_
    refine W.any (.move rfl) rfl rfl rfl ?_
    refine W.any (.shlN (y) (2) (Y) rfl rfl rfl rfl (by decide) (by omega)) rfl rfl rfl ?_
    refine W.any (.assign rfl) rfl rfl rfl ?_
    refine W.nil ?_
    refine E.thenN ?_
    refine WC.seq ?_
    refine WC.region ?_
    refine W.any (.move rfl) rfl rfl rfl ?_
    refine W.any (.shrE (Y) (32) (a) rfl rfl rfl rfl (by decide) (by omega)) rfl rfl rfl ?_
    refine W.any (.assign rfl) rfl rfl rfl ?_
    refine W.nil ?_
    refine E.thenN ?_
    refine WC.seq ?_
    refine WC.region ?_
    refine W.any (.move rfl) rfl rfl rfl ?_
    refine W.any (.andE (Y) (4294967295) (b) rfl rfl rfl rfl (by omega) (by omega) ((mask32 _).trans hb0.symm)) rfl rfl rfl ?_
    refine W.any (.assign rfl) rfl rfl rfl ?_
    refine W.nil ?_
    refine E.thenN ?_
    refine WC.seq ?_
    refine WC.region ?_
    refine W.any (.move rfl) rfl rfl rfl ?_
    refine W.any (.move rfl) rfl rfl rfl ?_
    refine W.any (.shlN (h) (2) (h * 4) rfl rfl rfl rfl (by decide) (by omega)) rfl rfl rfl ?_
    refine W.any (.move rfl) rfl rfl rfl ?_
    refine W.any (.move rfl) rfl rfl rfl ?_
    refine W.any (.subN (64) (2) (62) rfl rfl rfl rfl (by decide) (by decide)) rfl rfl rfl ?_
    refine W.any (.shrE (l) (62) (l / 4611686018427387904) rfl rfl rfl rfl (by decide) (rfl)) rfl rfl rfl ?_
    refine W.any (.orE (h * 4) (l / 4611686018427387904) (U) rfl rfl rfl rfl (by omega) (by omega) (by rw [hUd, Nat.mul_comm h, show (4 : Nat) = 2 ^ 2 by decide]; exact (Nat.two_pow_add_eq_or_of_lt (by omega) _).symm)) rfl rfl rfl ?_
    refine W.any (.assign rfl) rfl rfl rfl ?_
    refine W.nil ?_
    refine E.thenN ?_
    refine WC.seq ?_
    refine WC.region ?_
    refine W.any (.move rfl) rfl rfl rfl ?_
    refine W.any (.move rfl) rfl rfl rfl ?_
    refine W.any (.shlN (l) (2) (v) rfl rfl rfl rfl (by decide) (hv.symm)) rfl rfl rfl ?_
    refine W.any (.assign rfl) rfl rfl rfl ?_
    refine W.nil ?_
    refine E.thenN ?_
    refine WC.seq ?_
    refine WC.region ?_
    refine W.any (.move rfl) rfl rfl rfl ?_
    refine W.any (.shrE (v) (32) (e1) rfl rfl rfl rfl (by decide) (by omega)) rfl rfl rfl ?_
    refine W.any (.assign rfl) rfl rfl rfl ?_
    refine W.nil ?_
    refine E.thenN ?_
    refine WC.seq ?_
    refine WC.region ?_
    refine W.any (.move rfl) rfl rfl rfl ?_
    refine W.any (.andE (v) (4294967295) (e0) rfl rfl rfl rfl (by omega) (by omega) ((mask32 _).trans he0.symm)) rfl rfl rfl ?_
    refine W.any (.assign rfl) rfl rfl rfl ?_
    refine W.nil ?_
    refine E.thenN ?_
    refine WC.seq ?_
    refine WC.region ?_
    refine W.any (.move rfl) rfl rfl rfl ?_
    refine W.any (.move rfl) rfl rfl rfl ?_
    refine W.any (.quoN (U) (a) (U / a) rfl rfl rfl rfl (by omega) (by omega) (rfl)) rfl rfl rfl ?_
    refine W.any (.assign rfl) rfl rfl rfl ?_
    refine W.nil ?_
    refine E.thenN ?_
    refine WC.seq ?_
    refine WC.region ?_
    refine W.any (.move rfl) rfl rfl rfl ?_
    refine W.any (.move rfl) rfl rfl rfl ?_
    refine W.any (.move rfl) rfl rfl rfl ?_
    refine W.any (.mulN (U / a) (a) (U / a * a) rfl rfl rfl rfl (Nat.mod_eq_of_lt (Nat.lt_of_le_of_lt (Nat.div_mul_le_self _ _) (by omega)))) rfl rfl rfl ?_
    refine W.any (.subN (U) (U / a * a) (U % a) rfl rfl rfl rfl (Nat.le_trans (Nat.div_mul_le_self _ _) (by omega)) (sub_div U a (by omega))) rfl rfl rfl ?_
    refine W.any (.assign rfl) rfl rfl rfl ?_
    refine W.nil ?_
    refine E.thenN ?_
    refine WC.cut (ι := Unit) (fun () => [(2, .int .u64 ((Y : Nat) : Int)), (8, .int .u64 (2 : Int)), (9, .int .u64 ((a : Nat) : Int)), (10, .int .u64 ((b : Nat) : Int)), (11, .int .u64 ((U : Nat) : Int)), (13, .int .u64 ((e1 : Nat) : Int)), (14, .int .u64 ((e0 : Nat) : Int)), (15, .int .u64 ((Q1 : Nat) : Int))]) (fun () wc15 => Le w wc15) ?_ ?_
    · refine WC.block ?_
      refine WC.loop (ι := Nat × Nat) (fun ⟨qh, rh⟩ => [(2, .int .u64 ((Y : Nat) : Int)), (8, .int .u64 (2 : Int)), (9, .int .u64 ((a : Nat) : Int)), (10, .int .u64 ((b : Nat) : Int)), (11, .int .u64 ((U : Nat) : Int)), (13, .int .u64 ((e1 : Nat) : Int)), (14, .int .u64 ((e0 : Nat) : Int)), (15, .int .u64 ((qh : Nat) : Int)), (16, .int .u64 ((rh : Nat) : Int))]) (fun ⟨qh, rh⟩ wl => Le w wl ∧ qh * a + rh = U ∧ Q1 ≤ qh ∧ rh < 4294967296 ∧ qh ≤ 4294967297) (fun ⟨qh, rh⟩ => qh) (U / a, U % a) ?_ ?_ ?_
      · exact .cons rfl (.cons rfl (.cons rfl (.cons rfl (.cons rfl (.cons rfl (.cons rfl (.cons rfl (.cons rfl (.nil _)))))))))
      · exact ⟨L7_1, by rw [Nat.mul_comm]; exact Nat.div_add_mod _ _, by rw [hQ1]; exact dig_start hY (by omega) hU (by omega), Nat.lt_of_lt_of_le (Nat.mod_lt _ (by omega)) (by omega), dig_first hY (by omega) (by omega) hU⟩
      · rintro ⟨qh, rh⟩ wl ⟨Ll, hi, hq, hr, hq2⟩
        refine WC.seq ?_
        refine WC.seq ?_
        refine WC.region ?_
        refine W.any (.move rfl) rfl rfl rfl ?_
        refine W.any (.geq rfl rfl) rfl rfl rfl ?_
        by_cases hb : 4294967296 ≤ qh
        · refine W.any (.move rfl) rfl rfl rfl ?_
          refine W.skip rfl rfl rfl (decide_eq_true (by omega)) rfl rfl ?_
          refine W.skip rfl rfl rfl (decide_eq_true (by omega)) rfl rfl ?_
          refine W.skip rfl rfl rfl (decide_eq_true (by omega)) rfl rfl ?_
          refine W.skip rfl rfl rfl (decide_eq_true (by omega)) rfl rfl ?_
          refine W.skip rfl rfl rfl (decide_eq_true (by omega)) rfl rfl ?_
          refine W.skip rfl rfl rfl (decide_eq_true (by omega)) rfl rfl ?_
          refine W.skip rfl rfl rfl (decide_eq_true (by omega)) rfl rfl ?_
          refine W.skip rfl rfl rfl (decide_eq_true (by omega)) rfl rfl ?_
          refine W.any (.pickT rfl (decide_eq_true (by omega)) rfl) rfl rfl rfl ?_
          have hgt : Q1 < qh := by rw [hQ1]; exact dig_gt hY hU (by omega) hi (by omega)
          have hd : qh * a = (qh - 1) * a + a := by rw [← Nat.succ_mul]; congr 1; omega
          have hinv : (qh - 1) * a + (rh + a) = U := by omega
          refine W.nil ?_
          refine E.thenN ?_
          refine WC.condT rfl ?_
          refine WC.skip ?_
          refine E.thenN ?_
          refine WC.block ?_
          refine WC.seq ?_
          refine WC.region ?_
          refine W.any (.move rfl) rfl rfl rfl ?_
          refine W.any (.subN (qh) (1) (qh - 1) rfl rfl rfl rfl (by omega) (by omega)) rfl rfl rfl ?_
          refine W.any (.assign rfl) rfl rfl rfl ?_
          refine W.nil ?_
          refine E.thenN ?_
          refine WC.seq ?_
          refine WC.region ?_
          refine W.any (.move rfl) rfl rfl rfl ?_
          refine W.any (.move rfl) rfl rfl rfl ?_
          refine W.any (.addN (rh) (a) (rh + a) rfl rfl rfl rfl (by omega)) rfl rfl rfl ?_
          refine W.any (.assign rfl) rfl rfl rfl ?_
          refine W.nil ?_
          refine E.thenN ?_
          refine WC.seq ?_
          refine WC.region ?_
          refine W.any (.move rfl) rfl rfl rfl ?_
          refine W.any (.geq rfl rfl) rfl rfl rfl ?_
          refine W.nil ?_
          refine E.thenN ?_
          refine WC.cond rfl (fun c4 => ?_) (fun c4 => ?_)
          · have hqe : qh - 1 = Q1 := Nat.le_antisymm (by rw [hQ1]; exact dig_brk hY (by omega) hb1 hinv (by omega) (by omega)) (by omega)
            refine WC.exit ?_
            refine E.blkX rfl ?_
            refine E.thenX ?_
            refine E.blkH ?_
            refine E.meet () (.cons rfl (.cons rfl (.cons rfl (.cons rfl (.cons rfl (.cons rfl (.cons rfl (.cons' rfl (int_eq (by rw [hqe])) (.nil _))))))))) ?_
            exact Ll
          · refine WC.skip ?_
            refine E.blkN ?_
            refine E.again (qh - 1, rh + a) (.cons rfl (.cons rfl (.cons rfl (.cons rfl (.cons rfl (.cons rfl (.cons rfl (.cons rfl (.cons rfl (.nil _)))))))))) ?_ ?_
            · exact ⟨Ll, hinv, by omega, by omega, by omega⟩
            · first | omega | (simp only []; omega)
        · refine W.any (.move rfl) rfl rfl rfl ?_
          refine W.rdg (Any.rd (.move rfl) _) rfl rfl rfl (decide_eq_false (by omega)) rfl rfl ?_
          refine W.rdg (Any.rd (.move rfl) _) rfl rfl rfl (decide_eq_false (by omega)) rfl rfl ?_
          have hqb : qh * b < 18446744073709551616 := Nat.lt_of_le_of_lt (Nat.mul_le_mul (show qh ≤ 4294967295 by omega) (show b ≤ 4294967295 by omega)) (by decide)
          refine W.rdg (Any.rd (.mulN (qh) (b) (qh * b) rfl rfl rfl rfl (Nat.mod_eq_of_lt hqb)) _) rfl rfl rfl (decide_eq_false (by omega)) rfl rfl ?_
          refine W.rdg (Any.rd (.move rfl) _) rfl rfl rfl (decide_eq_false (by omega)) rfl rfl ?_
          refine W.rdg (Any.rd (.mulN (4294967296) (rh) (4294967296 * rh) rfl rfl rfl rfl (by omega)) _) rfl rfl rfl (decide_eq_false (by omega)) rfl rfl ?_
          refine W.rdg (Any.rd (.move rfl) _) rfl rfl rfl (decide_eq_false (by omega)) rfl rfl ?_
          refine W.rdg (Any.rd (.addN (4294967296 * rh) (e1) (4294967296 * rh + e1) rfl rfl rfl rfl (by omega)) _) rfl rfl rfl (decide_eq_false (by omega)) rfl rfl ?_
          refine W.rdg (Any.rd (.gtr rfl rfl) _) rfl rfl rfl (decide_eq_false (by omega)) rfl rfl ?_
          refine W.any (.pickF rfl (decide_eq_false (by omega)) rfl) rfl rfl rfl ?_
          refine W.nil ?_
          refine E.thenN ?_
          refine WC.cond rfl (fun c3 => ?_) (fun c3 => ?_)
          · have hgt : Q1 < qh := by rw [hQ1]; exact dig_gt hY hU (by omega) hi (by omega)
            have hd : qh * a = (qh - 1) * a + a := by rw [← Nat.succ_mul]; congr 1; omega
            have hinv : (qh - 1) * a + (rh + a) = U := by omega
            refine WC.skip ?_
            refine E.thenN ?_
            refine WC.block ?_
            refine WC.seq ?_
            refine WC.region ?_
            refine W.any (.move rfl) rfl rfl rfl ?_
            refine W.any (.subN (qh) (1) (qh - 1) rfl rfl rfl rfl (by omega) (by omega)) rfl rfl rfl ?_
            refine W.any (.assign rfl) rfl rfl rfl ?_
            refine W.nil ?_
            refine E.thenN ?_
            refine WC.seq ?_
            refine WC.region ?_
            refine W.any (.move rfl) rfl rfl rfl ?_
            refine W.any (.move rfl) rfl rfl rfl ?_
            refine W.any (.addN (rh) (a) (rh + a) rfl rfl rfl rfl (by omega)) rfl rfl rfl ?_
            refine W.any (.assign rfl) rfl rfl rfl ?_
            refine W.nil ?_
            refine E.thenN ?_
            refine WC.seq ?_
            refine WC.region ?_
            refine W.any (.move rfl) rfl rfl rfl ?_
            refine W.any (.geq rfl rfl) rfl rfl rfl ?_
            refine W.nil ?_
            refine E.thenN ?_
            refine WC.cond rfl (fun c4 => ?_) (fun c4 => ?_)
            · have hqe : qh - 1 = Q1 := Nat.le_antisymm (by rw [hQ1]; exact dig_brk hY (by omega) hb1 hinv (by omega) (by omega)) (by omega)
              refine WC.exit ?_
              refine E.blkX rfl ?_
              refine E.thenX ?_
              refine E.blkH ?_
              refine E.meet () (.cons rfl (.cons rfl (.cons rfl (.cons rfl (.cons rfl (.cons rfl (.cons rfl (.cons' rfl (int_eq (by rw [hqe])) (.nil _))))))))) ?_
              exact Ll
            · refine WC.skip ?_
              refine E.blkN ?_
              refine E.again (qh - 1, rh + a) (.cons rfl (.cons rfl (.cons rfl (.cons rfl (.cons rfl (.cons rfl (.cons rfl (.cons rfl (.cons rfl (.nil _)))))))))) ?_ ?_
              · exact ⟨Ll, hinv, by omega, by omega, by omega⟩
              · first | omega | (simp only []; omega)
          · have hqe : qh = Q1 := Nat.le_antisymm (by rw [hQ1]; exact dig_le hY (by omega) hi (by omega)) hq
            refine WC.exit ?_
            refine E.thenX ?_
            refine E.thenX ?_
            refine E.blkH ?_
            refine E.meet () (.cons rfl (.cons rfl (.cons rfl (.cons rfl (.cons rfl (.cons rfl (.cons rfl (.cons' rfl (int_eq (by rw [hqe])) (.nil _))))))))) ?_
            exact Ll
    · rintro ⟨⟩ wc15 Lc15
      refine WC.seq ?_
      refine WC.region ?_
      refine W.any (.move rfl) rfl rfl rfl ?_
      refine W.any (.mulN (U) (4294967296) (U * 4294967296 % 18446744073709551616) rfl rfl rfl rfl (rfl)) rfl rfl rfl ?_
      refine W.any (.move rfl) rfl rfl rfl ?_
      refine W.any (.addN (U * 4294967296 % 18446744073709551616) (e1) ((U * 4294967296 + e1) % 18446744073709551616) rfl rfl rfl rfl (by rw [Nat.mod_add_mod])) rfl rfl rfl ?_
      refine W.any (.move rfl) rfl rfl rfl ?_
      refine W.any (.move rfl) rfl rfl rfl ?_
      refine W.any (.mulN (Q1) (Y) (Q1 * Y % 18446744073709551616) rfl rfl rfl rfl (rfl)) rfl rfl rfl ?_
      refine W.any (.subN ((U * 4294967296 + e1) % 18446744073709551616) (Q1 * Y % 18446744073709551616) (R) rfl rfl rfl rfl (Nat.le_of_lt (Nat.mod_lt _ (by decide))) ((dig_rest Y _ _ hQ1 (by omega) (by omega)).trans hR.symm)) rfl rfl rfl ?_
      refine W.any (.assign rfl) rfl rfl rfl ?_
      refine W.nil ?_
      refine E.thenN ?_
      refine WC.seq ?_
      refine WC.region ?_
      refine W.any (.move rfl) rfl rfl rfl ?_
      refine W.any (.move rfl) rfl rfl rfl ?_
      refine W.any (.quoN (R) (a) (R / a) rfl rfl rfl rfl (by omega) (by omega) (rfl)) rfl rfl rfl ?_
      refine W.any (.assign rfl) rfl rfl rfl ?_
      refine W.nil ?_
      refine E.thenN ?_
      refine WC.seq ?_
      refine WC.region ?_
      refine W.any (.move rfl) rfl rfl rfl ?_
      refine W.any (.move rfl) rfl rfl rfl ?_
      refine W.any (.move rfl) rfl rfl rfl ?_
      refine W.any (.mulN (R / a) (a) (R / a * a) rfl rfl rfl rfl (Nat.mod_eq_of_lt (Nat.lt_of_le_of_lt (Nat.div_mul_le_self _ _) (by omega)))) rfl rfl rfl ?_
      refine W.any (.subN (R) (R / a * a) (R % a) rfl rfl rfl rfl (Nat.le_trans (Nat.div_mul_le_self _ _) (by omega)) (sub_div R a (by omega))) rfl rfl rfl ?_
      refine W.any (.assign rfl) rfl rfl rfl ?_
      refine W.nil ?_
      refine E.thenN ?_
      refine WC.cut (ι := Unit) (fun () => [(2, .int .u64 ((Y : Nat) : Int)), (8, .int .u64 (2 : Int)), (9, .int .u64 ((a : Nat) : Int)), (10, .int .u64 ((b : Nat) : Int)), (14, .int .u64 ((e0 : Nat) : Int)), (17, .int .u64 ((R : Nat) : Int)), (15, .int .u64 ((Q1 : Nat) : Int)), (18, .int .u64 ((Q2 : Nat) : Int))]) (fun () wc18 => Le w wc18) ?_ ?_
      · refine WC.block ?_
        refine WC.loop (ι := Nat × Nat) (fun ⟨qh, rh⟩ => [(2, .int .u64 ((Y : Nat) : Int)), (8, .int .u64 (2 : Int)), (9, .int .u64 ((a : Nat) : Int)), (10, .int .u64 ((b : Nat) : Int)), (14, .int .u64 ((e0 : Nat) : Int)), (17, .int .u64 ((R : Nat) : Int)), (15, .int .u64 ((Q1 : Nat) : Int)), (18, .int .u64 ((qh : Nat) : Int)), (16, .int .u64 ((rh : Nat) : Int))]) (fun ⟨qh, rh⟩ wl => Le w wl ∧ qh * a + rh = R ∧ Q2 ≤ qh ∧ rh < 4294967296 ∧ qh ≤ 4294967297) (fun ⟨qh, rh⟩ => qh) (R / a, R % a) ?_ ?_ ?_
        · exact .cons rfl (.cons rfl (.cons rfl (.cons rfl (.cons rfl (.cons rfl (.cons rfl (.cons rfl (.cons rfl (.nil _)))))))))
        · exact ⟨Lc15, by rw [Nat.mul_comm]; exact Nat.div_add_mod _ _, by rw [hQ2]; exact dig_start hY (by omega) hRY (by omega), Nat.lt_of_lt_of_le (Nat.mod_lt _ (by omega)) (by omega), dig_first hY (by omega) (by omega) hRY⟩
        · rintro ⟨qh, rh⟩ wl ⟨Ll, hi, hq, hr, hq2⟩
          refine WC.seq ?_
          refine WC.seq ?_
          refine WC.region ?_
          refine W.any (.move rfl) rfl rfl rfl ?_
          refine W.any (.geq rfl rfl) rfl rfl rfl ?_
          by_cases hb : 4294967296 ≤ qh
          · refine W.any (.move rfl) rfl rfl rfl ?_
            refine W.skip rfl rfl rfl (decide_eq_true (by omega)) rfl rfl ?_
            refine W.skip rfl rfl rfl (decide_eq_true (by omega)) rfl rfl ?_
            refine W.skip rfl rfl rfl (decide_eq_true (by omega)) rfl rfl ?_
            refine W.skip rfl rfl rfl (decide_eq_true (by omega)) rfl rfl ?_
            refine W.skip rfl rfl rfl (decide_eq_true (by omega)) rfl rfl ?_
            refine W.skip rfl rfl rfl (decide_eq_true (by omega)) rfl rfl ?_
            refine W.skip rfl rfl rfl (decide_eq_true (by omega)) rfl rfl ?_
            refine W.skip rfl rfl rfl (decide_eq_true (by omega)) rfl rfl ?_
            refine W.any (.pickT rfl (decide_eq_true (by omega)) rfl) rfl rfl rfl ?_
            have hgt : Q2 < qh := by rw [hQ2]; exact dig_gt hY hRY (by omega) hi (by omega)
            have hd : qh * a = (qh - 1) * a + a := by rw [← Nat.succ_mul]; congr 1; omega
            have hinv : (qh - 1) * a + (rh + a) = R := by omega
            refine W.nil ?_
            refine E.thenN ?_
            refine WC.condT rfl ?_
            refine WC.skip ?_
            refine E.thenN ?_
            refine WC.block ?_
            refine WC.seq ?_
            refine WC.region ?_
            refine W.any (.move rfl) rfl rfl rfl ?_
            refine W.any (.subN (qh) (1) (qh - 1) rfl rfl rfl rfl (by omega) (by omega)) rfl rfl rfl ?_
            refine W.any (.assign rfl) rfl rfl rfl ?_
            refine W.nil ?_
            refine E.thenN ?_
            refine WC.seq ?_
            refine WC.region ?_
            refine W.any (.move rfl) rfl rfl rfl ?_
            refine W.any (.move rfl) rfl rfl rfl ?_
            refine W.any (.addN (rh) (a) (rh + a) rfl rfl rfl rfl (by omega)) rfl rfl rfl ?_
            refine W.any (.assign rfl) rfl rfl rfl ?_
            refine W.nil ?_
            refine E.thenN ?_
            refine WC.seq ?_
            refine WC.region ?_
            refine W.any (.move rfl) rfl rfl rfl ?_
            refine W.any (.geq rfl rfl) rfl rfl rfl ?_
            refine W.nil ?_
            refine E.thenN ?_
            refine WC.cond rfl (fun c6 => ?_) (fun c6 => ?_)
            · have hqe : qh - 1 = Q2 := Nat.le_antisymm (by rw [hQ2]; exact dig_brk hY (by omega) hb1 hinv (by omega) (by omega)) (by omega)
              refine WC.exit ?_
              refine E.blkX rfl ?_
              refine E.thenX ?_
              refine E.blkH ?_
              refine E.meet () (.cons rfl (.cons rfl (.cons rfl (.cons rfl (.cons rfl (.cons rfl (.cons rfl (.cons' rfl (int_eq (by rw [hqe])) (.nil _))))))))) ?_
              exact Ll
            · refine WC.skip ?_
              refine E.blkN ?_
              refine E.again (qh - 1, rh + a) (.cons rfl (.cons rfl (.cons rfl (.cons rfl (.cons rfl (.cons rfl (.cons rfl (.cons rfl (.cons rfl (.nil _)))))))))) ?_ ?_
              · exact ⟨Ll, hinv, by omega, by omega, by omega⟩
              · first | omega | (simp only []; omega)
          · refine W.any (.move rfl) rfl rfl rfl ?_
            refine W.rdg (Any.rd (.move rfl) _) rfl rfl rfl (decide_eq_false (by omega)) rfl rfl ?_
            refine W.rdg (Any.rd (.move rfl) _) rfl rfl rfl (decide_eq_false (by omega)) rfl rfl ?_
            have hqb : qh * b < 18446744073709551616 := Nat.lt_of_le_of_lt (Nat.mul_le_mul (show qh ≤ 4294967295 by omega) (show b ≤ 4294967295 by omega)) (by decide)
            refine W.rdg (Any.rd (.mulN (qh) (b) (qh * b) rfl rfl rfl rfl (Nat.mod_eq_of_lt hqb)) _) rfl rfl rfl (decide_eq_false (by omega)) rfl rfl ?_
            refine W.rdg (Any.rd (.move rfl) _) rfl rfl rfl (decide_eq_false (by omega)) rfl rfl ?_
            refine W.rdg (Any.rd (.mulN (4294967296) (rh) (4294967296 * rh) rfl rfl rfl rfl (by omega)) _) rfl rfl rfl (decide_eq_false (by omega)) rfl rfl ?_
            refine W.rdg (Any.rd (.move rfl) _) rfl rfl rfl (decide_eq_false (by omega)) rfl rfl ?_
            refine W.rdg (Any.rd (.addN (4294967296 * rh) (e0) (4294967296 * rh + e0) rfl rfl rfl rfl (by omega)) _) rfl rfl rfl (decide_eq_false (by omega)) rfl rfl ?_
            refine W.rdg (Any.rd (.gtr rfl rfl) _) rfl rfl rfl (decide_eq_false (by omega)) rfl rfl ?_
            refine W.any (.pickF rfl (decide_eq_false (by omega)) rfl) rfl rfl rfl ?_
            refine W.nil ?_
            refine E.thenN ?_
            refine WC.cond rfl (fun c5 => ?_) (fun c5 => ?_)
            · have hgt : Q2 < qh := by rw [hQ2]; exact dig_gt hY hRY (by omega) hi (by omega)
              have hd : qh * a = (qh - 1) * a + a := by rw [← Nat.succ_mul]; congr 1; omega
              have hinv : (qh - 1) * a + (rh + a) = R := by omega
              refine WC.skip ?_
              refine E.thenN ?_
              refine WC.block ?_
              refine WC.seq ?_
              refine WC.region ?_
              refine W.any (.move rfl) rfl rfl rfl ?_
              refine W.any (.subN (qh) (1) (qh - 1) rfl rfl rfl rfl (by omega) (by omega)) rfl rfl rfl ?_
              refine W.any (.assign rfl) rfl rfl rfl ?_
              refine W.nil ?_
              refine E.thenN ?_
              refine WC.seq ?_
              refine WC.region ?_
              refine W.any (.move rfl) rfl rfl rfl ?_
              refine W.any (.move rfl) rfl rfl rfl ?_
              refine W.any (.addN (rh) (a) (rh + a) rfl rfl rfl rfl (by omega)) rfl rfl rfl ?_
              refine W.any (.assign rfl) rfl rfl rfl ?_
              refine W.nil ?_
              refine E.thenN ?_
              refine WC.seq ?_
              refine WC.region ?_
              refine W.any (.move rfl) rfl rfl rfl ?_
              refine W.any (.geq rfl rfl) rfl rfl rfl ?_
              refine W.nil ?_
              refine E.thenN ?_
              refine WC.cond rfl (fun c6 => ?_) (fun c6 => ?_)
              · have hqe : qh - 1 = Q2 := Nat.le_antisymm (by rw [hQ2]; exact dig_brk hY (by omega) hb1 hinv (by omega) (by omega)) (by omega)
                refine WC.exit ?_
                refine E.blkX rfl ?_
                refine E.thenX ?_
                refine E.blkH ?_
                refine E.meet () (.cons rfl (.cons rfl (.cons rfl (.cons rfl (.cons rfl (.cons rfl (.cons rfl (.cons' rfl (int_eq (by rw [hqe])) (.nil _))))))))) ?_
                exact Ll
              · refine WC.skip ?_
                refine E.blkN ?_
                refine E.again (qh - 1, rh + a) (.cons rfl (.cons rfl (.cons rfl (.cons rfl (.cons rfl (.cons rfl (.cons rfl (.cons rfl (.cons rfl (.nil _)))))))))) ?_ ?_
                · exact ⟨Ll, hinv, by omega, by omega, by omega⟩
                · first | omega | (simp only []; omega)
            · have hqe : qh = Q2 := Nat.le_antisymm (by rw [hQ2]; exact dig_le hY (by omega) hi (by omega)) hq
              refine WC.exit ?_
              refine E.thenX ?_
              refine E.thenX ?_
              refine E.blkH ?_
              refine E.meet () (.cons rfl (.cons rfl (.cons rfl (.cons rfl (.cons rfl (.cons rfl (.cons rfl (.cons' rfl (int_eq (by rw [hqe])) (.nil _))))))))) ?_
              exact Ll
      · rintro ⟨⟩ wc18 Lc18
        refine WC.seq ?_
        refine WC.region ?_
        refine W.any (.move rfl) rfl rfl rfl ?_
        refine W.any (.mulN (Q1) (4294967296) (Q1 * 4294967296 % 18446744073709551616) rfl rfl rfl rfl (rfl)) rfl rfl rfl ?_
        refine W.any (.move rfl) rfl rfl rfl ?_
        refine W.any (.addN (Q1 * 4294967296 % 18446744073709551616) (Q2) ((Q1 * 4294967296 % 18446744073709551616 + Q2) % 18446744073709551616) rfl rfl rfl rfl (rfl)) rfl rfl rfl ?_
        refine W.any (.move rfl) rfl rfl rfl ?_
        refine W.any (.mulN (R) (4294967296) (R * 4294967296 % 18446744073709551616) rfl rfl rfl rfl (rfl)) rfl rfl rfl ?_
        refine W.any (.move rfl) rfl rfl rfl ?_
        refine W.any (.addN (R * 4294967296 % 18446744073709551616) (e0) ((R * 4294967296 + e0) % 18446744073709551616) rfl rfl rfl rfl (by rw [Nat.mod_add_mod])) rfl rfl rfl ?_
        refine W.any (.move rfl) rfl rfl rfl ?_
        refine W.any (.move rfl) rfl rfl rfl ?_
        refine W.any (.mulN (Q2) (Y) (Q2 * Y % 18446744073709551616) rfl rfl rfl rfl (rfl)) rfl rfl rfl ?_
        refine W.any (.subN ((R * 4294967296 + e0) % 18446744073709551616) (Q2 * Y % 18446744073709551616) ((R * 4294967296 + e0) % Y) rfl rfl rfl rfl (Nat.le_of_lt (Nat.mod_lt _ (by decide))) (dig_rest Y _ _ hQ2 (by omega) (by omega))) rfl rfl rfl ?_
        refine W.any (.move rfl) rfl rfl rfl ?_
        refine W.any (.shrE ((R * 4294967296 + e0) % Y) (2) ((h * 18446744073709551616 + l) % y) rfl rfl rfl rfl (by decide) (hfin)) rfl rfl rfl ?_
        refine W.any (.assign rfl) rfl rfl rfl ?_
        refine W.any (.assign rfl) rfl rfl rfl ?_
        refine W.nil ?_
        refine E.thenN ?_
        refine WC.ret ?_
        refine E.ret2 rfl rfl rfl ?_
        exact ⟨_, rfl, Lc18⟩

theorem div64_ok3 (h l y : Nat) (h1 : 1152921504606846976 ≤ y) (h2 : y < 2305843009213693952) (hh : h < y) (hl : l < 18446744073709551616) (w : World) : Calls Tryz.prog 116 #[.int .u64 ((h : Nat) : Int), .int .u64 ((l : Nat) : Int), .int .u64 ((y : Nat) : Int)] w fun e w' => ∃ qq : Int, e = .returned (.tuple #[.int .u64 qq, .int .u64 (((h * 18446744073709551616 + l) % y : Nat) : Int)]) ∧ Le w w' := by
  obtain ⟨Y, hYd⟩ : ∃ Y, Y = y * 8 := ⟨_, rfl⟩
  obtain ⟨a, ha⟩ : ∃ a, a = Y / 4294967296 := ⟨_, rfl⟩
  obtain ⟨b, hb0⟩ : ∃ b, b = Y % 4294967296 := ⟨_, rfl⟩
  obtain ⟨U, hUd⟩ : ∃ U, U = h * 8 + l / 2305843009213693952 := ⟨_, rfl⟩
  obtain ⟨v, hv⟩ : ∃ v, v = l * 8 % 18446744073709551616 := ⟨_, rfl⟩
  obtain ⟨e1, he1⟩ : ∃ e1, e1 = v / 4294967296 := ⟨_, rfl⟩
  obtain ⟨e0, he0⟩ : ∃ e0, e0 = v % 4294967296 := ⟨_, rfl⟩
  have hY : Y = a * 4294967296 + b := by omega
  have hYlo : 9223372036854775808 ≤ Y := by omega
  have hYhi : Y < 18446744073709551616 := by omega
  have ha1 : 2147483648 ≤ a := by omega
  have ha2 : a < 4294967296 := by omega
  have hb1 : b < 4294967296 := by omega
  have hv2 : v < 18446744073709551616 := by omega
  have he12 : e1 < 4294967296 := by omega
  have he02 : e0 < 4294967296 := by omega
  have hU : U < Y := by omega
  obtain ⟨R, hR⟩ : ∃ R, R = (U * 4294967296 + e1) % Y := ⟨_, rfl⟩
  obtain ⟨Q1, hQ1⟩ : ∃ Q1, Q1 = (U * 4294967296 + e1) / Y := ⟨_, rfl⟩
  obtain ⟨Q2, hQ2⟩ : ∃ Q2, Q2 = (R * 4294967296 + e0) / Y := ⟨_, rfl⟩
  have hRY : R < Y := by rw [hR]; exact Nat.mod_lt _ (by omega)
  have hfin : (R * 4294967296 + e0) % Y / 2 ^ 3 = (h * 18446744073709551616 + l) % y := div_fin3 h l y Y U v e1 e0 R hYd hUd hv he1 he0 hR (by omega)
  have hlz : ∀ w, Calls Tryz.prog 130 #[.int .u64 ((y : Nat) : Int)] w (fun e w' => e = .returned (.int .i64 3) ∧ Le w w') := fun w => by
    have := lz64_ok y (by omega) (by omega) w
    rw [if_pos (by omega)] at this
    exact this
  refine enter Tryz.func116 rfl rfl ?_
  have L0 := Le.refl w
  refine WC.seq ?_
  refine WC.region ?_
  refine W.any (.assign rfl) rfl rfl rfl ?_
  refine W.any (.assign rfl) rfl rfl rfl ?_
  refine W.nil ?_
  refine E.thenN ?_
  refine WC.seq ?_
  refine WC.seq ?_
  refine WC.region ?_
  refine W.any (.move rfl) rfl rfl rfl ?_
  refine W.any (.eql rfl rfl) rfl rfl rfl ?_
  refine W.nil ?_
  refine E.thenN ?_
  refine WC.condB rfl (fun h => absurd h (by simp; omega)) (fun _ => ?_)
  refine WC.skip ?_
  refine E.thenN ?_
  refine WC.seq ?_
  refine WC.seq ?_
  refine WC.region ?_
  refine W.any (.move rfl) rfl rfl rfl ?_
  refine W.any (.move rfl) rfl rfl rfl ?_
  refine W.any (.leq rfl rfl) rfl rfl rfl ?_
  refine W.nil ?_
  refine E.thenN ?_
  refine WC.condB rfl (fun h => absurd h (by simp; omega)) (fun _ => ?_)
  refine WC.skip ?_
  refine E.thenN ?_
  refine WC.seq ?_
  refine WC.seq ?_
  refine WC.region ?_
  refine W.any (.move rfl) rfl rfl rfl ?_
  refine W.any (.eql rfl rfl) rfl rfl rfl ?_
  refine W.nil ?_
  refine E.thenN ?_
  refine WC.cond rfl (fun c2 => ?_) (fun c2 => ?_)
  · have h0 : h = 0 := by omega
    subst h0
    refine WC.seq ?_
    refine WC.draw [0, 1, 2, 3, 4, 5, 6, 7] mixed (by kernel_rfl) ?_
    intro w6 d6
    have L6 := L0.trans d6
    refine G.any rfl rfl (.move rfl) rfl rfl rfl ?_
    refine G.any rfl rfl (.move rfl) rfl rfl rfl ?_
    refine G.any rfl rfl (.quoN (l) (y) (l / y) rfl rfl rfl rfl (by omega) (by omega) (rfl)) rfl rfl rfl ?_
    refine G.any rfl rfl (.move rfl) rfl rfl rfl ?_
    refine G.any rfl rfl (.move rfl) rfl rfl rfl ?_
    refine G.any rfl rfl (.remN (l) (y) (l % y) rfl rfl rfl rfl (by omega) (rfl)) rfl rfl rfl ?_
    refine G.any rfl rfl (.assign rfl) rfl rfl rfl ?_
    refine G.any rfl rfl (.assign rfl) rfl rfl rfl ?_
    refine G.nil ?_
    refine E.thenN ?_
    refine WC.ret ?_
    refine E.thenR ?_
    refine E.ret2 rfl rfl rfl ?_
    exact ⟨_, by rw [Nat.zero_mul, Nat.zero_add], L6⟩
  · refine WC.skip ?_
    refine E.thenN ?_
    refine WC.seq ?_
    refine WC.region ?_
    refine W.any (.move rfl) rfl rfl rfl ?_
    refine W.ef rfl rfl rfl ?_
    refine Ef.call go130 rfl rfl (hlz w) ?_
    rintro _ w7_1 ⟨rfl, h7_1⟩
    refine ⟨_, rfl, ?_⟩
    have L7_1 := L0.trans h7_1
    refine W.rd (.idI (isS Tryz.underlying3) Tryz.underlying100 rfl (IntWalk.u64_in _ (by decide))) rfl rfl rfl ?_
    refine W.any (.assign rfl) rfl rfl rfl ?_
    refine W.nil ?_
    refine E.thenN ?_
    refine WC.seq ?_
    refine WC.region ?_
    refine W.any (.move rfl) rfl rfl rfl ?_
    refine W.any (.move rfl) rfl rfl rfl ?_
    refine W.any (.shlN (y) (3) (Y) rfl rfl rfl rfl (by decide) (by omega)) rfl rfl rfl ?_
    refine W.any (.assign rfl) rfl rfl rfl ?_
    refine W.nil ?_
    refine E.thenN ?_
    refine WC.seq ?_
    refine WC.region ?_
    refine W.any (.move rfl) rfl rfl rfl ?_
    refine W.any (.shrE (Y) (32) (a) rfl rfl rfl rfl (by decide) (by omega)) rfl rfl rfl ?_
    refine W.any (.assign rfl) rfl rfl rfl ?_
    refine W.nil ?_
    refine E.thenN ?_
    refine WC.seq ?_
    refine WC.region ?_
    refine W.any (.move rfl) rfl rfl rfl ?_
    refine W.any (.andE (Y) (4294967295) (b) rfl rfl rfl rfl (by omega) (by omega) ((mask32 _).trans hb0.symm)) rfl rfl rfl ?_
    refine W.any (.assign rfl) rfl rfl rfl ?_
    refine W.nil ?_
    refine E.thenN ?_
    refine WC.seq ?_
    refine WC.region ?_
    refine W.any (.move rfl) rfl rfl rfl ?_
    refine W.any (.move rfl) rfl rfl rfl ?_
    refine W.any (.shlN (h) (3) (h * 8) rfl rfl rfl rfl (by decide) (by omega)) rfl rfl rfl ?_
    refine W.any (.move rfl) rfl rfl rfl ?_
    refine W.any (.move rfl) rfl rfl rfl ?_
    refine W.any (.subN (64) (3) (61) rfl rfl rfl rfl (by decide) (by decide)) rfl rfl rfl ?_
    refine W.any (.shrE (l) (61) (l / 2305843009213693952) rfl rfl rfl rfl (by decide) (rfl)) rfl rfl rfl ?_
    refine W.any (.orE (h * 8) (l / 2305843009213693952) (U) rfl rfl rfl rfl (by omega) (by omega) (by rw [hUd, Nat.mul_comm h, show (8 : Nat) = 2 ^ 3 by decide]; exact (Nat.two_pow_add_eq_or_of_lt (by omega) _).symm)) rfl rfl rfl ?_
    refine W.any (.assign rfl) rfl rfl rfl ?_
    refine W.nil ?_
    refine E.thenN ?_
    refine WC.seq ?_
    refine WC.region ?_
    refine W.any (.move rfl) rfl rfl rfl ?_
    refine W.any (.move rfl) rfl rfl rfl ?_
    refine W.any (.shlN (l) (3) (v) rfl rfl rfl rfl (by decide) (hv.symm)) rfl rfl rfl ?_
    refine W.any (.assign rfl) rfl rfl rfl ?_
    refine W.nil ?_
    refine E.thenN ?_
    refine WC.seq ?_
    refine WC.region ?_
    refine W.any (.move rfl) rfl rfl rfl ?_
    refine W.any (.shrE (v) (32) (e1) rfl rfl rfl rfl (by decide) (by omega)) rfl rfl rfl ?_
    refine W.any (.assign rfl) rfl rfl rfl ?_
    refine W.nil ?_
    refine E.thenN ?_
    refine WC.seq ?_
    refine WC.region ?_
    refine W.any (.move rfl) rfl rfl rfl ?_
    refine W.any (.andE (v) (4294967295) (e0) rfl rfl rfl rfl (by omega) (by omega) ((mask32 _).trans he0.symm)) rfl rfl rfl ?_
    refine W.any (.assign rfl) rfl rfl rfl ?_
    refine W.nil ?_
    refine E.thenN ?_
    refine WC.seq ?_
    refine WC.region ?_
    refine W.any (.move rfl) rfl rfl rfl ?_
    refine W.any (.move rfl) rfl rfl rfl ?_
    refine W.any (.quoN (U) (a) (U / a) rfl rfl rfl rfl (by omega) (by omega) (rfl)) rfl rfl rfl ?_
    refine W.any (.assign rfl) rfl rfl rfl ?_
    refine W.nil ?_
    refine E.thenN ?_
    refine WC.seq ?_
    refine WC.region ?_
    refine W.any (.move rfl) rfl rfl rfl ?_
    refine W.any (.move rfl) rfl rfl rfl ?_
    refine W.any (.move rfl) rfl rfl rfl ?_
    refine W.any (.mulN (U / a) (a) (U / a * a) rfl rfl rfl rfl (Nat.mod_eq_of_lt (Nat.lt_of_le_of_lt (Nat.div_mul_le_self _ _) (by omega)))) rfl rfl rfl ?_
    refine W.any (.subN (U) (U / a * a) (U % a) rfl rfl rfl rfl (Nat.le_trans (Nat.div_mul_le_self _ _) (by omega)) (sub_div U a (by omega))) rfl rfl rfl ?_
    refine W.any (.assign rfl) rfl rfl rfl ?_
    refine W.nil ?_
    refine E.thenN ?_
    refine WC.cut (ι := Unit) (fun () => [(2, .int .u64 ((Y : Nat) : Int)), (8, .int .u64 (3 : Int)), (9, .int .u64 ((a : Nat) : Int)), (10, .int .u64 ((b : Nat) : Int)), (11, .int .u64 ((U : Nat) : Int)), (13, .int .u64 ((e1 : Nat) : Int)), (14, .int .u64 ((e0 : Nat) : Int)), (15, .int .u64 ((Q1 : Nat) : Int))]) (fun () wc15 => Le w wc15) ?_ ?_
    · refine WC.block ?_
      refine WC.loop (ι := Nat × Nat) (fun ⟨qh, rh⟩ => [(2, .int .u64 ((Y : Nat) : Int)), (8, .int .u64 (3 : Int)), (9, .int .u64 ((a : Nat) : Int)), (10, .int .u64 ((b : Nat) : Int)), (11, .int .u64 ((U : Nat) : Int)), (13, .int .u64 ((e1 : Nat) : Int)), (14, .int .u64 ((e0 : Nat) : Int)), (15, .int .u64 ((qh : Nat) : Int)), (16, .int .u64 ((rh : Nat) : Int))]) (fun ⟨qh, rh⟩ wl => Le w wl ∧ qh * a + rh = U ∧ Q1 ≤ qh ∧ rh < 4294967296 ∧ qh ≤ 4294967297) (fun ⟨qh, rh⟩ => qh) (U / a, U % a) ?_ ?_ ?_
      · exact .cons rfl (.cons rfl (.cons rfl (.cons rfl (.cons rfl (.cons rfl (.cons rfl (.cons rfl (.cons rfl (.nil _)))))))))
      · exact ⟨L7_1, by rw [Nat.mul_comm]; exact Nat.div_add_mod _ _, by rw [hQ1]; exact dig_start hY (by omega) hU (by omega), Nat.lt_of_lt_of_le (Nat.mod_lt _ (by omega)) (by omega), dig_first hY (by omega) (by omega) hU⟩
      · rintro ⟨qh, rh⟩ wl ⟨Ll, hi, hq, hr, hq2⟩
        refine WC.seq ?_
        refine WC.seq ?_
        refine WC.region ?_
        refine W.any (.move rfl) rfl rfl rfl ?_
        refine W.any (.geq rfl rfl) rfl rfl rfl ?_
        by_cases hb : 4294967296 ≤ qh
        · refine W.any (.move rfl) rfl rfl rfl ?_
          refine W.skip rfl rfl rfl (decide_eq_true (by omega)) rfl rfl ?_
          refine W.skip rfl rfl rfl (decide_eq_true (by omega)) rfl rfl ?_
          refine W.skip rfl rfl rfl (decide_eq_true (by omega)) rfl rfl ?_
          refine W.skip rfl rfl rfl (decide_eq_true (by omega)) rfl rfl ?_
          refine W.skip rfl rfl rfl (decide_eq_true (by omega)) rfl rfl ?_
          refine W.skip rfl rfl rfl (decide_eq_true (by omega)) rfl rfl ?_
          refine W.skip rfl rfl rfl (decide_eq_true (by omega)) rfl rfl ?_
          refine W.skip rfl rfl rfl (decide_eq_true (by omega)) rfl rfl ?_
          refine W.any (.pickT rfl (decide_eq_true (by omega)) rfl) rfl rfl rfl ?_
          have hgt : Q1 < qh := by rw [hQ1]; exact dig_gt hY hU (by omega) hi (by omega)
          have hd : qh * a = (qh - 1) * a + a := by rw [← Nat.succ_mul]; congr 1; omega
          have hinv : (qh - 1) * a + (rh + a) = U := by omega
          refine W.nil ?_
          refine E.thenN ?_
          refine WC.condT rfl ?_
          refine WC.skip ?_
          refine E.thenN ?_
          refine WC.block ?_
          refine WC.seq ?_
          refine WC.region ?_
          refine W.any (.move rfl) rfl rfl rfl ?_
          refine W.any (.subN (qh) (1) (qh - 1) rfl rfl rfl rfl (by omega) (by omega)) rfl rfl rfl ?_
          refine W.any (.assign rfl) rfl rfl rfl ?_
          refine W.nil ?_
          refine E.thenN ?_
          refine WC.seq ?_
          refine WC.region ?_
          refine W.any (.move rfl) rfl rfl rfl ?_
          refine W.any (.move rfl) rfl rfl rfl ?_
          refine W.any (.addN (rh) (a) (rh + a) rfl rfl rfl rfl (by omega)) rfl rfl rfl ?_
          refine W.any (.assign rfl) rfl rfl rfl ?_
          refine W.nil ?_
          refine E.thenN ?_
          refine WC.seq ?_
          refine WC.region ?_
          refine W.any (.move rfl) rfl rfl rfl ?_
          refine W.any (.geq rfl rfl) rfl rfl rfl ?_
          refine W.nil ?_
          refine E.thenN ?_
          refine WC.cond rfl (fun c4 => ?_) (fun c4 => ?_)
          · have hqe : qh - 1 = Q1 := Nat.le_antisymm (by rw [hQ1]; exact dig_brk hY (by omega) hb1 hinv (by omega) (by omega)) (by omega)
            refine WC.exit ?_
            refine E.blkX rfl ?_
            refine E.thenX ?_
            refine E.blkH ?_
            refine E.meet () (.cons rfl (.cons rfl (.cons rfl (.cons rfl (.cons rfl (.cons rfl (.cons rfl (.cons' rfl (int_eq (by rw [hqe])) (.nil _))))))))) ?_
            exact Ll
          · refine WC.skip ?_
            refine E.blkN ?_
            refine E.again (qh - 1, rh + a) (.cons rfl (.cons rfl (.cons rfl (.cons rfl (.cons rfl (.cons rfl (.cons rfl (.cons rfl (.cons rfl (.nil _)))))))))) ?_ ?_
            · exact ⟨Ll, hinv, by omega, by omega, by omega⟩
            · first | omega | (simp only []; omega)
        · refine W.any (.move rfl) rfl rfl rfl ?_
          refine W.rdg (Any.rd (.move rfl) _) rfl rfl rfl (decide_eq_false (by omega)) rfl rfl ?_
          refine W.rdg (Any.rd (.move rfl) _) rfl rfl rfl (decide_eq_false (by omega)) rfl rfl ?_
          have hqb : qh * b < 18446744073709551616 := Nat.lt_of_le_of_lt (Nat.mul_le_mul (show qh ≤ 4294967295 by omega) (show b ≤ 4294967295 by omega)) (by decide)
          refine W.rdg (Any.rd (.mulN (qh) (b) (qh * b) rfl rfl rfl rfl (Nat.mod_eq_of_lt hqb)) _) rfl rfl rfl (decide_eq_false (by omega)) rfl rfl ?_
          refine W.rdg (Any.rd (.move rfl) _) rfl rfl rfl (decide_eq_false (by omega)) rfl rfl ?_
          refine W.rdg (Any.rd (.mulN (4294967296) (rh) (4294967296 * rh) rfl rfl rfl rfl (by omega)) _) rfl rfl rfl (decide_eq_false (by omega)) rfl rfl ?_
          refine W.rdg (Any.rd (.move rfl) _) rfl rfl rfl (decide_eq_false (by omega)) rfl rfl ?_
          refine W.rdg (Any.rd (.addN (4294967296 * rh) (e1) (4294967296 * rh + e1) rfl rfl rfl rfl (by omega)) _) rfl rfl rfl (decide_eq_false (by omega)) rfl rfl ?_
          refine W.rdg (Any.rd (.gtr rfl rfl) _) rfl rfl rfl (decide_eq_false (by omega)) rfl rfl ?_
          refine W.any (.pickF rfl (decide_eq_false (by omega)) rfl) rfl rfl rfl ?_
          refine W.nil ?_
          refine E.thenN ?_
          refine WC.cond rfl (fun c3 => ?_) (fun c3 => ?_)
          · have hgt : Q1 < qh := by rw [hQ1]; exact dig_gt hY hU (by omega) hi (by omega)
            have hd : qh * a = (qh - 1) * a + a := by rw [← Nat.succ_mul]; congr 1; omega
            have hinv : (qh - 1) * a + (rh + a) = U := by omega
            refine WC.skip ?_
            refine E.thenN ?_
            refine WC.block ?_
            refine WC.seq ?_
            refine WC.region ?_
            refine W.any (.move rfl) rfl rfl rfl ?_
            refine W.any (.subN (qh) (1) (qh - 1) rfl rfl rfl rfl (by omega) (by omega)) rfl rfl rfl ?_
            refine W.any (.assign rfl) rfl rfl rfl ?_
            refine W.nil ?_
            refine E.thenN ?_
            refine WC.seq ?_
            refine WC.region ?_
            refine W.any (.move rfl) rfl rfl rfl ?_
            refine W.any (.move rfl) rfl rfl rfl ?_
            refine W.any (.addN (rh) (a) (rh + a) rfl rfl rfl rfl (by omega)) rfl rfl rfl ?_
            refine W.any (.assign rfl) rfl rfl rfl ?_
            refine W.nil ?_
            refine E.thenN ?_
            refine WC.seq ?_
            refine WC.region ?_
            refine W.any (.move rfl) rfl rfl rfl ?_
            refine W.any (.geq rfl rfl) rfl rfl rfl ?_
            refine W.nil ?_
            refine E.thenN ?_
            refine WC.cond rfl (fun c4 => ?_) (fun c4 => ?_)
            · have hqe : qh - 1 = Q1 := Nat.le_antisymm (by rw [hQ1]; exact dig_brk hY (by omega) hb1 hinv (by omega) (by omega)) (by omega)
              refine WC.exit ?_
              refine E.blkX rfl ?_
              refine E.thenX ?_
              refine E.blkH ?_
              refine E.meet () (.cons rfl (.cons rfl (.cons rfl (.cons rfl (.cons rfl (.cons rfl (.cons rfl (.cons' rfl (int_eq (by rw [hqe])) (.nil _))))))))) ?_
              exact Ll
            · refine WC.skip ?_
              refine E.blkN ?_
              refine E.again (qh - 1, rh + a) (.cons rfl (.cons rfl (.cons rfl (.cons rfl (.cons rfl (.cons rfl (.cons rfl (.cons rfl (.cons rfl (.nil _)))))))))) ?_ ?_
              · exact ⟨Ll, hinv, by omega, by omega, by omega⟩
              · first | omega | (simp only []; omega)
          · have hqe : qh = Q1 := Nat.le_antisymm (by rw [hQ1]; exact dig_le hY (by omega) hi (by omega)) hq
            refine WC.exit ?_
            refine E.thenX ?_
            refine E.thenX ?_
            refine E.blkH ?_
            refine E.meet () (.cons rfl (.cons rfl (.cons rfl (.cons rfl (.cons rfl (.cons rfl (.cons rfl (.cons' rfl (int_eq (by rw [hqe])) (.nil _))))))))) ?_
            exact Ll
    · rintro ⟨⟩ wc15 Lc15
      refine WC.seq ?_
      refine WC.region ?_
      refine W.any (.move rfl) rfl rfl rfl ?_
      refine W.any (.mulN (U) (4294967296) (U * 4294967296 % 18446744073709551616) rfl rfl rfl rfl (rfl)) rfl rfl rfl ?_
      refine W.any (.move rfl) rfl rfl rfl ?_
      refine W.any (.addN (U * 4294967296 % 18446744073709551616) (e1) ((U * 4294967296 + e1) % 18446744073709551616) rfl rfl rfl rfl (by rw [Nat.mod_add_mod])) rfl rfl rfl ?_
      refine W.any (.move rfl) rfl rfl rfl ?_
      refine W.any (.move rfl) rfl rfl rfl ?_
      refine W.any (.mulN (Q1) (Y) (Q1 * Y % 18446744073709551616) rfl rfl rfl rfl (rfl)) rfl rfl rfl ?_
      refine W.any (.subN ((U * 4294967296 + e1) % 18446744073709551616) (Q1 * Y % 18446744073709551616) (R) rfl rfl rfl rfl (Nat.le_of_lt (Nat.mod_lt _ (by decide))) ((dig_rest Y _ _ hQ1 (by omega) (by omega)).trans hR.symm)) rfl rfl rfl ?_
      refine W.any (.assign rfl) rfl rfl rfl ?_
      refine W.nil ?_
      refine E.thenN ?_
      refine WC.seq ?_
      refine WC.region ?_
      refine W.any (.move rfl) rfl rfl rfl ?_
      refine W.any (.move rfl) rfl rfl rfl ?_
      refine W.any (.quoN (R) (a) (R / a) rfl rfl rfl rfl (by omega) (by omega) (rfl)) rfl rfl rfl ?_
      refine W.any (.assign rfl) rfl rfl rfl ?_
      refine W.nil ?_
      refine E.thenN ?_
      refine WC.seq ?_
      refine WC.region ?_
      refine W.any (.move rfl) rfl rfl rfl ?_
      refine W.any (.move rfl) rfl rfl rfl ?_
      refine W.any (.move rfl) rfl rfl rfl ?_
      refine W.any (.mulN (R / a) (a) (R / a * a) rfl rfl rfl rfl (Nat.mod_eq_of_lt (Nat.lt_of_le_of_lt (Nat.div_mul_le_self _ _) (by omega)))) rfl rfl rfl ?_
      refine W.any (.subN (R) (R / a * a) (R % a) rfl rfl rfl rfl (Nat.le_trans (Nat.div_mul_le_self _ _) (by omega)) (sub_div R a (by omega))) rfl rfl rfl ?_
      refine W.any (.assign rfl) rfl rfl rfl ?_
      refine W.nil ?_
      refine E.thenN ?_
      refine WC.cut (ι := Unit) (fun () => [(2, .int .u64 ((Y : Nat) : Int)), (8, .int .u64 (3 : Int)), (9, .int .u64 ((a : Nat) : Int)), (10, .int .u64 ((b : Nat) : Int)), (14, .int .u64 ((e0 : Nat) : Int)), (17, .int .u64 ((R : Nat) : Int)), (15, .int .u64 ((Q1 : Nat) : Int)), (18, .int .u64 ((Q2 : Nat) : Int))]) (fun () wc18 => Le w wc18) ?_ ?_
      · refine WC.block ?_
        refine WC.loop (ι := Nat × Nat) (fun ⟨qh, rh⟩ => [(2, .int .u64 ((Y : Nat) : Int)), (8, .int .u64 (3 : Int)), (9, .int .u64 ((a : Nat) : Int)), (10, .int .u64 ((b : Nat) : Int)), (14, .int .u64 ((e0 : Nat) : Int)), (17, .int .u64 ((R : Nat) : Int)), (15, .int .u64 ((Q1 : Nat) : Int)), (18, .int .u64 ((qh : Nat) : Int)), (16, .int .u64 ((rh : Nat) : Int))]) (fun ⟨qh, rh⟩ wl => Le w wl ∧ qh * a + rh = R ∧ Q2 ≤ qh ∧ rh < 4294967296 ∧ qh ≤ 4294967297) (fun ⟨qh, rh⟩ => qh) (R / a, R % a) ?_ ?_ ?_
        · exact .cons rfl (.cons rfl (.cons rfl (.cons rfl (.cons rfl (.cons rfl (.cons rfl (.cons rfl (.cons rfl (.nil _)))))))))
        · exact ⟨Lc15, by rw [Nat.mul_comm]; exact Nat.div_add_mod _ _, by rw [hQ2]; exact dig_start hY (by omega) hRY (by omega), Nat.lt_of_lt_of_le (Nat.mod_lt _ (by omega)) (by omega), dig_first hY (by omega) (by omega) hRY⟩
        · rintro ⟨qh, rh⟩ wl ⟨Ll, hi, hq, hr, hq2⟩
          refine WC.seq ?_
          refine WC.seq ?_
          refine WC.region ?_
          refine W.any (.move rfl) rfl rfl rfl ?_
          refine W.any (.geq rfl rfl) rfl rfl rfl ?_
          by_cases hb : 4294967296 ≤ qh
          · refine W.any (.move rfl) rfl rfl rfl ?_
            refine W.skip rfl rfl rfl (decide_eq_true (by omega)) rfl rfl ?_
            refine W.skip rfl rfl rfl (decide_eq_true (by omega)) rfl rfl ?_
            refine W.skip rfl rfl rfl (decide_eq_true (by omega)) rfl rfl ?_
            refine W.skip rfl rfl rfl (decide_eq_true (by omega)) rfl rfl ?_
            refine W.skip rfl rfl rfl (decide_eq_true (by omega)) rfl rfl ?_
            refine W.skip rfl rfl rfl (decide_eq_true (by omega)) rfl rfl ?_
            refine W.skip rfl rfl rfl (decide_eq_true (by omega)) rfl rfl ?_
            refine W.skip rfl rfl rfl (decide_eq_true (by omega)) rfl rfl ?_
            refine W.any (.pickT rfl (decide_eq_true (by omega)) rfl) rfl rfl rfl ?_
            have hgt : Q2 < qh := by rw [hQ2]; exact dig_gt hY hRY (by omega) hi (by omega)
            have hd : qh * a = (qh - 1) * a + a := by rw [← Nat.succ_mul]; congr 1; omega
            have hinv : (qh - 1) * a + (rh + a) = R := by omega
            refine W.nil ?_
            refine E.thenN ?_
            refine WC.condT rfl ?_
            refine WC.skip ?_
            refine E.thenN ?_
            refine WC.block ?_
            refine WC.seq ?_
            refine WC.region ?_
            refine W.any (.move rfl) rfl rfl rfl ?_
            refine W.any (.subN (qh) (1) (qh - 1) rfl rfl rfl rfl (by omega) (by omega)) rfl rfl rfl ?_
            refine W.any (.assign rfl) rfl rfl rfl ?_
            refine W.nil ?_
            refine E.thenN ?_
            refine WC.seq ?_
            refine WC.region ?_
            refine W.any (.move rfl) rfl rfl rfl ?_
            refine W.any (.move rfl) rfl rfl rfl ?_
            refine W.any (.addN (rh) (a) (rh + a) rfl rfl rfl rfl (by omega)) rfl rfl rfl ?_
            refine W.any (.assign rfl) rfl rfl rfl ?_
            refine W.nil ?_
            refine E.thenN ?_
            refine WC.seq ?_
            refine WC.region ?_
            refine W.any (.move rfl) rfl rfl rfl ?_
            refine W.any (.geq rfl rfl) rfl rfl rfl ?_
            refine W.nil ?_
            refine E.thenN ?_
            refine WC.cond rfl (fun c6 => ?_) (fun c6 => ?_)
            · have hqe : qh - 1 = Q2 := Nat.le_antisymm (by rw [hQ2]; exact dig_brk hY (by omega) hb1 hinv (by omega) (by omega)) (by omega)
              refine WC.exit ?_
              refine E.blkX rfl ?_
              refine E.thenX ?_
              refine E.blkH ?_
              refine E.meet () (.cons rfl (.cons rfl (.cons rfl (.cons rfl (.cons rfl (.cons rfl (.cons rfl (.cons' rfl (int_eq (by rw [hqe])) (.nil _))))))))) ?_
              exact Ll
            · refine WC.skip ?_
              refine E.blkN ?_
              refine E.again (qh - 1, rh + a) (.cons rfl (.cons rfl (.cons rfl (.cons rfl (.cons rfl (.cons rfl (.cons rfl (.cons rfl (.cons rfl (.nil _)))))))))) ?_ ?_
              · exact ⟨Ll, hinv, by omega, by omega, by omega⟩
              · first | omega | (simp only []; omega)
          · refine W.any (.move rfl) rfl rfl rfl ?_
            refine W.rdg (Any.rd (.move rfl) _) rfl rfl rfl (decide_eq_false (by omega)) rfl rfl ?_
            refine W.rdg (Any.rd (.move rfl) _) rfl rfl rfl (decide_eq_false (by omega)) rfl rfl ?_
            have hqb : qh * b < 18446744073709551616 := Nat.lt_of_le_of_lt (Nat.mul_le_mul (show qh ≤ 4294967295 by omega) (show b ≤ 4294967295 by omega)) (by decide)
            refine W.rdg (Any.rd (.mulN (qh) (b) (qh * b) rfl rfl rfl rfl (Nat.mod_eq_of_lt hqb)) _) rfl rfl rfl (decide_eq_false (by omega)) rfl rfl ?_
            refine W.rdg (Any.rd (.move rfl) _) rfl rfl rfl (decide_eq_false (by omega)) rfl rfl ?_
            refine W.rdg (Any.rd (.mulN (4294967296) (rh) (4294967296 * rh) rfl rfl rfl rfl (by omega)) _) rfl rfl rfl (decide_eq_false (by omega)) rfl rfl ?_
            refine W.rdg (Any.rd (.move rfl) _) rfl rfl rfl (decide_eq_false (by omega)) rfl rfl ?_
            refine W.rdg (Any.rd (.addN (4294967296 * rh) (e0) (4294967296 * rh + e0) rfl rfl rfl rfl (by omega)) _) rfl rfl rfl (decide_eq_false (by omega)) rfl rfl ?_
            refine W.rdg (Any.rd (.gtr rfl rfl) _) rfl rfl rfl (decide_eq_false (by omega)) rfl rfl ?_
            refine W.any (.pickF rfl (decide_eq_false (by omega)) rfl) rfl rfl rfl ?_
            refine W.nil ?_
            refine E.thenN ?_
            refine WC.cond rfl (fun c5 => ?_) (fun c5 => ?_)
            · have hgt : Q2 < qh := by rw [hQ2]; exact dig_gt hY hRY (by omega) hi (by omega)
              have hd : qh * a = (qh - 1) * a + a := by rw [← Nat.succ_mul]; congr 1; omega
              have hinv : (qh - 1) * a + (rh + a) = R := by omega
              refine WC.skip ?_
              refine E.thenN ?_
              refine WC.block ?_
              refine WC.seq ?_
              refine WC.region ?_
              refine W.any (.move rfl) rfl rfl rfl ?_
              refine W.any (.subN (qh) (1) (qh - 1) rfl rfl rfl rfl (by omega) (by omega)) rfl rfl rfl ?_
              refine W.any (.assign rfl) rfl rfl rfl ?_
              refine W.nil ?_
              refine E.thenN ?_
              refine WC.seq ?_
              refine WC.region ?_
              refine W.any (.move rfl) rfl rfl rfl ?_
              refine W.any (.move rfl) rfl rfl rfl ?_
              refine W.any (.addN (rh) (a) (rh + a) rfl rfl rfl rfl (by omega)) rfl rfl rfl ?_
              refine W.any (.assign rfl) rfl rfl rfl ?_
              refine W.nil ?_
              refine E.thenN ?_
              refine WC.seq ?_
              refine WC.region ?_
              refine W.any (.move rfl) rfl rfl rfl ?_
              refine W.any (.geq rfl rfl) rfl rfl rfl ?_
              refine W.nil ?_
              refine E.thenN ?_
              refine WC.cond rfl (fun c6 => ?_) (fun c6 => ?_)
              · have hqe : qh - 1 = Q2 := Nat.le_antisymm (by rw [hQ2]; exact dig_brk hY (by omega) hb1 hinv (by omega) (by omega)) (by omega)
                refine WC.exit ?_
                refine E.blkX rfl ?_
                refine E.thenX ?_
                refine E.blkH ?_
                refine E.meet () (.cons rfl (.cons rfl (.cons rfl (.cons rfl (.cons rfl (.cons rfl (.cons rfl (.cons' rfl (int_eq (by rw [hqe])) (.nil _))))))))) ?_
                exact Ll
              · refine WC.skip ?_
                refine E.blkN ?_
                refine E.again (qh - 1, rh + a) (.cons rfl (.cons rfl (.cons rfl (.cons rfl (.cons rfl (.cons rfl (.cons rfl (.cons rfl (.cons rfl (.nil _)))))))))) ?_ ?_
                · exact ⟨Ll, hinv, by omega, by omega, by omega⟩
                · first | omega | (simp only []; omega)
            · have hqe : qh = Q2 := Nat.le_antisymm (by rw [hQ2]; exact dig_le hY (by omega) hi (by omega)) hq
              refine WC.exit ?_
              refine E.thenX ?_
              refine E.thenX ?_
              refine E.blkH ?_
              refine E.meet () (.cons rfl (.cons rfl (.cons rfl (.cons rfl (.cons rfl (.cons rfl (.cons rfl (.cons' rfl (int_eq (by rw [hqe])) (.nil _))))))))) ?_
              exact Ll
      · rintro ⟨⟩ wc18 Lc18
        refine WC.seq ?_
        refine WC.region ?_
        refine W.any (.move rfl) rfl rfl rfl ?_
        refine W.any (.mulN (Q1) (4294967296) (Q1 * 4294967296 % 18446744073709551616) rfl rfl rfl rfl (rfl)) rfl rfl rfl ?_
        refine W.any (.move rfl) rfl rfl rfl ?_
        refine W.any (.addN (Q1 * 4294967296 % 18446744073709551616) (Q2) ((Q1 * 4294967296 % 18446744073709551616 + Q2) % 18446744073709551616) rfl rfl rfl rfl (rfl)) rfl rfl rfl ?_
        refine W.any (.move rfl) rfl rfl rfl ?_
        refine W.any (.mulN (R) (4294967296) (R * 4294967296 % 18446744073709551616) rfl rfl rfl rfl (rfl)) rfl rfl rfl ?_
        refine W.any (.move rfl) rfl rfl rfl ?_
        refine W.any (.addN (R * 4294967296 % 18446744073709551616) (e0) ((R * 4294967296 + e0) % 18446744073709551616) rfl rfl rfl rfl (by rw [Nat.mod_add_mod])) rfl rfl rfl ?_
        refine W.any (.move rfl) rfl rfl rfl ?_
        refine W.any (.move rfl) rfl rfl rfl ?_
        refine W.any (.mulN (Q2) (Y) (Q2 * Y % 18446744073709551616) rfl rfl rfl rfl (rfl)) rfl rfl rfl ?_
        refine W.any (.subN ((R * 4294967296 + e0) % 18446744073709551616) (Q2 * Y % 18446744073709551616) ((R * 4294967296 + e0) % Y) rfl rfl rfl rfl (Nat.le_of_lt (Nat.mod_lt _ (by decide))) (dig_rest Y _ _ hQ2 (by omega) (by omega))) rfl rfl rfl ?_
        refine W.any (.move rfl) rfl rfl rfl ?_
        refine W.any (.shrE ((R * 4294967296 + e0) % Y) (3) ((h * 18446744073709551616 + l) % y) rfl rfl rfl rfl (by decide) (hfin)) rfl rfl rfl ?_
        refine W.any (.assign rfl) rfl rfl rfl ?_
        refine W.any (.assign rfl) rfl rfl rfl ?_
        refine W.nil ?_
        refine E.thenN ?_
        refine WC.ret ?_
        refine E.ret2 rfl rfl rfl ?_
        exact ⟨_, rfl, Lc18⟩

theorem rem64_ok (h l y : Nat) (h1 : 1152921504606846976 ≤ y) (h2 : y < 4611686018427387904) (hl : l < 18446744073709551616) (w : World) : Calls Tryz.prog 84 #[.int .u64 ((h : Nat) : Int), .int .u64 ((l : Nat) : Int), .int .u64 ((y : Nat) : Int)] w fun e w' => e = .returned (.int .u64 (((h * 18446744073709551616 + l) % y : Nat) : Int)) ∧ Le w w' := by
  have hd : ∀ w, Calls Tryz.prog 116 #[.int .u64 ((h % y : Nat) : Int), .int .u64 ((l : Nat) : Int), .int .u64 ((y : Nat) : Int)] w fun e w' => ∃ qq : Int, e = .returned (.tuple #[.int .u64 qq, .int .u64 (((h * 18446744073709551616 + l) % y : Nat) : Int)]) ∧ Le w w' := fun w => by
    rw [show (h * 18446744073709551616 + l) % y = (h % y * 18446744073709551616 + l) % y by rw [Nat.add_mod (h % y * _), Nat.mul_mod (h % y), Nat.mod_mod, ← Nat.mul_mod, ← Nat.add_mod]]
    by_cases hs : y < 2305843009213693952
    · exact div64_ok3 (h % y) l y (by omega) (by omega) (Nat.mod_lt _ (by omega)) hl w
    · exact div64_ok2 (h % y) l y (by omega) (by omega) (Nat.mod_lt _ (by omega)) hl w
  refine enter Tryz.func84 rfl rfl ?_
  have L0 := Le.refl w
  refine WC.seq ?_
  refine WC.region ?_
  refine W.any (.assign rfl) rfl rfl rfl ?_
  refine W.nil ?_
  refine E.thenN ?_
  refine WC.seq ?_
  refine WC.region ?_
  refine W.any (.move rfl) rfl rfl rfl ?_
  refine W.any (.move rfl) rfl rfl rfl ?_
  refine W.any (.remN (h) (y) (h % y) rfl rfl rfl rfl (by omega) (rfl)) rfl rfl rfl ?_
  refine W.any (.move rfl) rfl rfl rfl ?_
  refine W.any (.move rfl) rfl rfl rfl ?_
  refine W.ef rfl rfl rfl ?_
  refine Ef.call go116 rfl rfl (hd w) ?_
  rintro _ w1_5 ⟨qq, rfl, h1_5⟩
  refine ⟨_, rfl, ?_⟩
  have L1_5 := L0.trans h1_5
  refine W.any (.move rfl) rfl rfl rfl ?_
  refine W.any (.extract rfl rfl) rfl rfl rfl ?_
  refine W.any (.extract rfl rfl) rfl rfl rfl ?_
  refine W.any (.assign rfl) rfl rfl rfl ?_
  refine W.any (.assign rfl) rfl rfl rfl ?_
  refine W.nil ?_
  refine E.thenN ?_
  refine WC.seq ?_
  refine WC.region ?_
  refine W.any (.move rfl) rfl rfl rfl ?_
  refine W.any (.assign rfl) rfl rfl rfl ?_
  refine W.nil ?_
  refine E.thenN ?_
  refine WC.ret ?_
  refine E.ret1 rfl rfl ?_
  exact ⟨rfl, L1_5⟩
end Go.Proofs.YtbpfhenbcgjpcaaGreat

namespace Go.Proofs.YtbpfhenbcgjpcaaGreat
open Go Go.Sx Go.Num
set_option maxRecDepth 20000
theorem times_ok (a b : Nat) (ha : a < 18446744073709551616) (hb : b < 18446744073709551616) (w : World) : Calls Tryz.prog 102 #[.int .u64 ((a : Nat) : Int), .int .u64 ((b : Nat) : Int)] w fun e w' => e = .returned (.int .u64 ((a * b % M : Nat) : Int)) ∧ Le w w' := by
  refine enter Tryz.func102 rfl rfl ?_
  have L0 := Le.refl w
  refine WC.seq ?_
  refine WC.region ?_
  refine W.any (.assign rfl) rfl rfl rfl ?_
  refine W.nil ?_
  refine E.thenN ?_
  refine WC.seq ?_
  refine WC.region ?_
  refine W.any (.move rfl) rfl rfl rfl ?_
  refine W.any (.move rfl) rfl rfl rfl ?_
  refine W.ef rfl rfl rfl ?_
  refine Ef.call go128 rfl rfl (mul64_ok a b ha hb w) ?_
  rintro _ w1_2 ⟨rfl, h1_2⟩
  refine ⟨_, rfl, ?_⟩
  have L1_2 := L0.trans h1_2
  refine W.any (.move rfl) rfl rfl rfl ?_
  refine W.any (.extract rfl rfl) rfl rfl rfl ?_
  refine W.any (.extract rfl rfl) rfl rfl rfl ?_
  refine W.any (.assign rfl) rfl rfl rfl ?_
  refine W.any (.assign rfl) rfl rfl rfl ?_
  refine W.nil ?_
  refine E.thenN ?_
  refine WC.seq ?_
  refine WC.region ?_
  refine W.any (.move rfl) rfl rfl rfl ?_
  refine W.any (.move rfl) rfl rfl rfl ?_
  refine W.ef rfl rfl rfl ?_
  refine Ef.call go84 rfl rfl (rem64_ok (a * b / 18446744073709551616) (a * b % 18446744073709551616) 4611686018427377339 (by decide) (by decide) (Nat.mod_lt _ (by decide)) w1_2) ?_
  rintro _ w2_2 ⟨rfl, h2_2⟩
  refine ⟨_, rfl, ?_⟩
  have L2_2 := L1_2.trans h2_2
  refine W.any (.assign rfl) rfl rfl rfl ?_
  refine W.nil ?_
  refine E.thenN ?_
  refine WC.ret ?_
  refine E.ret1 rfl rfl ?_
  exact ⟨by rw [Nat.div_add_mod']; rfl, L2_2⟩

theorem ntimes_ok (a b : Nat) (ha : a < 18446744073709551616) (hb : b < 18446744073709551616) (w : World) : Calls Tryz.prog 115 #[.int .u64 ((a : Nat) : Int), .int .u64 ((b : Nat) : Int)] w fun e w' => e = .returned (.int .u64 ((a * b % q : Nat) : Int)) ∧ Le w w' := by
  refine enter Tryz.func115 rfl rfl ?_
  have L0 := Le.refl w
  refine WC.seq ?_
  refine WC.region ?_
  refine W.any (.assign rfl) rfl rfl rfl ?_
  refine W.nil ?_
  refine E.thenN ?_
  refine WC.seq ?_
  refine WC.region ?_
  refine W.any (.move rfl) rfl rfl rfl ?_
  refine W.any (.move rfl) rfl rfl rfl ?_
  refine W.ef rfl rfl rfl ?_
  refine Ef.call go128 rfl rfl (mul64_ok a b ha hb w) ?_
  rintro _ w1_2 ⟨rfl, h1_2⟩
  refine ⟨_, rfl, ?_⟩
  have L1_2 := L0.trans h1_2
  refine W.any (.move rfl) rfl rfl rfl ?_
  refine W.any (.extract rfl rfl) rfl rfl rfl ?_
  refine W.any (.extract rfl rfl) rfl rfl rfl ?_
  refine W.any (.assign rfl) rfl rfl rfl ?_
  refine W.any (.assign rfl) rfl rfl rfl ?_
  refine W.nil ?_
  refine E.thenN ?_
  refine WC.seq ?_
  refine WC.region ?_
  refine W.any (.move rfl) rfl rfl rfl ?_
  refine W.any (.move rfl) rfl rfl rfl ?_
  refine W.ef rfl rfl rfl ?_
  refine Ef.call go84 rfl rfl (rem64_ok (a * b / 18446744073709551616) (a * b % 18446744073709551616) 2305843009213688669 (by decide) (by decide) (Nat.mod_lt _ (by decide)) w1_2) ?_
  rintro _ w2_2 ⟨rfl, h2_2⟩
  refine ⟨_, rfl, ?_⟩
  have L2_2 := L1_2.trans h2_2
  refine W.any (.assign rfl) rfl rfl rfl ?_
  refine W.nil ?_
  refine E.thenN ?_
  refine WC.ret ?_
  refine E.ret1 rfl rfl ?_
  exact ⟨by rw [Nat.div_add_mod']; rfl, L2_2⟩

theorem power_ok (a n : Nat) (ha : a < 18446744073709551616) (hn : n < 18446744073709551616) (w : World) : Calls Tryz.prog 69 #[.int .u64 ((a : Nat) : Int), .int .u64 ((n : Nat) : Int)] w fun e w' => e = .returned (.int .u64 ((pw a n : Nat) : Int)) ∧ Le w w' := by
  refine enter Tryz.func69 rfl rfl ?_
  have L0 := Le.refl w
  refine WC.seq ?_
  refine WC.region ?_
  refine W.any (.assign rfl) rfl rfl rfl ?_
  refine W.nil ?_
  refine E.thenN ?_
  refine WC.seq ?_
  refine WC.region ?_
  refine W.any (.assign rfl) rfl rfl rfl ?_
  refine W.nil ?_
  refine E.thenN ?_
  refine WC.seq ?_
  refine WC.block ?_
  refine WC.loop (ι := Nat × Nat × Nat) (fun ⟨b, m, out⟩ => [(0, .int .u64 ((b : Nat) : Int)), (1, .int .u64 ((m : Nat) : Int)), (5, .int .u64 ((out : Nat) : Int))]) (fun ⟨b, m, out⟩ wl => Le w wl ∧ b < 18446744073709551616 ∧ m < 18446744073709551616 ∧ out < M ∧ out * b ^ m % M = pw a n) (fun ⟨b, m, out⟩ => m) (a, n, 1) ?_ ?_ ?_
  · exact .cons rfl (.cons rfl (.cons rfl (.nil _)))
  · exact ⟨L0, ha, hn, M_one, pw_start a n hn⟩
  · rintro ⟨b, m, out⟩ wl ⟨Ll, hb, hm, ho, hi⟩
    refine WC.seq ?_
    refine WC.seq ?_
    refine WC.region ?_
    refine W.any (.move rfl) rfl rfl rfl ?_
    refine W.any (.gtr rfl rfl) rfl rfl rfl ?_
    refine W.nil ?_
    refine E.thenN ?_
    refine WC.cond rfl (fun c0 => ?_) (fun c0 => ?_)
    · have hbb : b * b % M < 18446744073709551616 := Nat.lt_trans (Nat.mod_lt _ (by decide)) (by decide)
      have ho2 : out < 18446744073709551616 := Nat.lt_trans ho (by decide)
      refine WC.skip ?_
      refine E.thenN ?_
      refine WC.seq ?_
      refine WC.block ?_
      refine WC.seq ?_
      refine WC.seq ?_
      refine WC.region ?_
      refine W.any (.move rfl) rfl rfl rfl ?_
      refine W.any (.andE (m) (1) (m % 2) rfl rfl rfl rfl (by omega) (by omega) (mask1 _)) rfl rfl rfl ?_
      refine W.any (.eql rfl rfl) rfl rfl rfl ?_
      refine W.nil ?_
      refine E.thenN ?_
      refine WC.cond rfl (fun c1 => ?_) (fun c1 => ?_)
      · refine WC.region ?_
        refine W.any (.move rfl) rfl rfl rfl ?_
        refine W.any (.move rfl) rfl rfl rfl ?_
        refine W.ef rfl rfl rfl ?_
        refine Ef.call go102 rfl rfl (times_ok out b ho2 hb wl) ?_
        rintro _ w5_2 ⟨rfl, h5_2⟩
        refine ⟨_, rfl, ?_⟩
        have L5_2 := Ll.trans h5_2
        refine W.any (.assign rfl) rfl rfl rfl ?_
        refine W.nil ?_
        refine E.thenN ?_
        refine WC.region ?_
        refine W.any (.move rfl) rfl rfl rfl ?_
        refine W.any (.move rfl) rfl rfl rfl ?_
        refine W.ef rfl rfl rfl ?_
        refine Ef.call go102 rfl rfl (times_ok b b hb hb w5_2) ?_
        rintro _ w6_2 ⟨rfl, h6_2⟩
        refine ⟨_, rfl, ?_⟩
        have L6_2 := L5_2.trans h6_2
        refine W.any (.assign rfl) rfl rfl rfl ?_
        refine W.nil ?_
        refine E.blkN ?_
        refine E.thenN ?_
        refine WC.region ?_
        refine W.any (.move rfl) rfl rfl rfl ?_
        refine W.any (.shrE (m) (1) (m / 2) rfl rfl rfl rfl (by decide) (rfl)) rfl rfl rfl ?_
        refine W.any (.assign rfl) rfl rfl rfl ?_
        refine W.nil ?_
        refine E.again (b * b % M, m / 2, out * b % M) (.cons rfl (.cons rfl (.cons rfl (.nil _)))) ?_ ?_
        · exact ⟨L6_2, hbb, by omega, Nat.mod_lt _ (by decide), by rw [step1 b m out (by omega)]; exact hi⟩
        · first | omega | (simp only []; omega)
      · refine WC.skip ?_
        refine E.thenN ?_
        refine WC.region ?_
        refine W.any (.move rfl) rfl rfl rfl ?_
        refine W.any (.move rfl) rfl rfl rfl ?_
        refine W.ef rfl rfl rfl ?_
        refine Ef.call go102 rfl rfl (times_ok b b hb hb wl) ?_
        rintro _ w6_2 ⟨rfl, h6_2⟩
        refine ⟨_, rfl, ?_⟩
        have L6_2 := Ll.trans h6_2
        refine W.any (.assign rfl) rfl rfl rfl ?_
        refine W.nil ?_
        refine E.blkN ?_
        refine E.thenN ?_
        refine WC.region ?_
        refine W.any (.move rfl) rfl rfl rfl ?_
        refine W.any (.shrE (m) (1) (m / 2) rfl rfl rfl rfl (by decide) (rfl)) rfl rfl rfl ?_
        refine W.any (.assign rfl) rfl rfl rfl ?_
        refine W.nil ?_
        refine E.again (b * b % M, m / 2, out) (.cons rfl (.cons rfl (.cons rfl (.nil _)))) ?_ ?_
        · exact ⟨L6_2, hbb, by omega, ho, by rw [step0 b m out (by omega)]; exact hi⟩
        · first | omega | (simp only []; omega)
    · have hm0 : m = 0 := by omega
      subst hm0
      rw [pw_end b out ho] at hi
      refine WC.exit ?_
      refine E.thenX ?_
      refine E.thenX ?_
      refine E.blkH ?_
      refine E.thenN ?_
      refine WC.seq ?_
      refine WC.region ?_
      refine W.any (.move rfl) rfl rfl rfl ?_
      refine W.any (.assign rfl) rfl rfl rfl ?_
      refine W.nil ?_
      refine E.thenN ?_
      refine WC.ret ?_
      refine E.ret1 rfl rfl ?_
      exact ⟨by rw [hi], Ll⟩

theorem dec1 (x : Nat) : decide ((x : Int) = 1) = decide (x = 1) := decide_eq_decide.2 (by omega)

theorem pright_ok (p : Nat) (hp : p < 18446744073709551616) (w : World) : Calls Tryz.prog 103 #[.int .u64 ((p : Nat) : Int)] w fun e w' => e = .returned (.bool (right p)) ∧ Le w w' := by
  refine enter Tryz.func103 rfl rfl ?_
  have L0 := Le.refl w
  refine WC.seq ?_
  refine WC.region ?_
  refine W.any (.assign rfl) rfl rfl rfl ?_
  refine W.nil ?_
  refine E.thenN ?_
  refine WC.seq ?_
  refine WC.region ?_
  refine W.any (.move rfl) rfl rfl rfl ?_
  by_cases h0 : 0 < p
  · refine W.any (.dec (.gtr rfl rfl) (decide_eq_true (by omega))) rfl rfl rfl ?_
    refine W.any (.move rfl) rfl rfl rfl ?_
    refine W.rdg (Any.rd (.move rfl) _) rfl rfl rfl (rfl) rfl rfl ?_
    by_cases h1 : p < 4611686018427377339
    · refine W.rdg (Any.rd (.dec (.lss rfl rfl) (decide_eq_true (by omega))) _) rfl rfl rfl (rfl) rfl rfl ?_
      refine W.any (.pickT rfl rfl rfl) rfl rfl rfl ?_
      refine W.any (.move rfl) rfl rfl rfl ?_
      refine W.rdg (Any.rd (.move rfl) _) rfl rfl rfl (rfl) rfl rfl ?_
      refine W.efg rfl rfl rfl (rfl) rfl rfl ?_
      refine Ef.call go69 rfl rfl (power_ok p 2305843009213688669 hp (by decide) w) ?_
      rintro _ w1_8 ⟨rfl, h1_8⟩
      refine ⟨_, rfl, ?_⟩
      have L1_8 := L0.trans h1_8
      refine W.rdg (Any.rd (.eql rfl rfl) _) rfl rfl rfl (rfl) rfl rfl ?_
      refine W.any (.pickT rfl rfl rfl) rfl rfl rfl ?_
      refine W.any (.assign rfl) rfl rfl rfl ?_
      refine W.nil ?_
      refine E.thenN ?_
      refine WC.ret ?_
      refine E.ret1 rfl rfl ?_
      exact ⟨by rw [right, decide_eq_true h0, decide_eq_true (show p < M from h1), Bool.true_and, Bool.true_and, ← dec1]; rfl, L1_8⟩
    · refine W.rdg (Any.rd (.dec (.lss rfl rfl) (decide_eq_false (by omega))) _) rfl rfl rfl (rfl) rfl rfl ?_
      refine W.any (.pickT rfl rfl rfl) rfl rfl rfl ?_
      refine W.any (.move rfl) rfl rfl rfl ?_
      refine W.skip rfl rfl rfl (rfl) rfl rfl ?_
      refine W.skip rfl rfl rfl (rfl) rfl rfl ?_
      refine W.skip rfl rfl rfl (rfl) rfl rfl ?_
      refine W.any (.pickF rfl rfl rfl) rfl rfl rfl ?_
      refine W.any (.assign rfl) rfl rfl rfl ?_
      refine W.nil ?_
      refine E.thenN ?_
      refine WC.ret ?_
      refine E.ret1 rfl rfl ?_
      exact ⟨by rw [right, decide_eq_false (show ¬ p < M from h1), Bool.and_false, Bool.false_and], L0⟩
  · refine W.any (.dec (.gtr rfl rfl) (decide_eq_false (by omega))) rfl rfl rfl ?_
    refine W.any (.move rfl) rfl rfl rfl ?_
    refine W.skip rfl rfl rfl (rfl) rfl rfl ?_
    refine W.skip rfl rfl rfl (rfl) rfl rfl ?_
    refine W.any (.pickF rfl rfl rfl) rfl rfl rfl ?_
    refine W.any (.move rfl) rfl rfl rfl ?_
    refine W.skip rfl rfl rfl (rfl) rfl rfl ?_
    refine W.skip rfl rfl rfl (rfl) rfl rfl ?_
    refine W.skip rfl rfl rfl (rfl) rfl rfl ?_
    refine W.any (.pickF rfl rfl rfl) rfl rfl rfl ?_
    refine W.any (.assign rfl) rfl rfl rfl ?_
    refine W.nil ?_
    refine E.thenN ?_
    refine WC.ret ?_
    refine E.ret1 rfl rfl ?_
    exact ⟨by rw [right, decide_eq_false h0, Bool.false_and, Bool.false_and], L0⟩

theorem taken_ok (p : Nat) (hp : p < 18446744073709551616) (w : World) : Calls Tryz.prog 70 #[.int .u64 ((p : Nat) : Int)] w fun e w' => e = .returned (.int .u64 ((taken p : Nat) : Int)) ∧ Le w w' := by
  refine enter Tryz.func70 rfl rfl ?_
  have L0 := Le.refl w
  refine WC.seq ?_
  refine WC.region ?_
  refine W.any (.assign rfl) rfl rfl rfl ?_
  refine W.nil ?_
  refine E.thenN ?_
  refine WC.seq ?_
  refine WC.seq ?_
  refine WC.region ?_
  refine W.any (.move rfl) rfl rfl rfl ?_
  refine W.ef rfl rfl rfl ?_
  refine Ef.call go103 rfl rfl (pright_ok p hp w) ?_
  rintro _ w1_1 ⟨rfl, h1_1⟩
  refine ⟨_, rfl, ?_⟩
  have L1_1 := L0.trans h1_1
  refine W.nil ?_
  refine E.thenN ?_
  refine WC.condB rfl (fun c0 => ?_) (fun c0 => ?_)
  · refine WC.seq ?_
    refine WC.region ?_
    refine W.any (.move rfl) rfl rfl rfl ?_
    refine W.any (.assign rfl) rfl rfl rfl ?_
    refine W.nil ?_
    refine E.thenN ?_
    refine WC.ret ?_
    refine E.thenR ?_
    refine E.ret1 rfl rfl ?_
    exact ⟨by rw [taken, if_pos c0], L1_1⟩
  · refine WC.skip ?_
    refine E.thenN ?_
    refine WC.seq ?_
    refine WC.region ?_
    refine W.any (.assign rfl) rfl rfl rfl ?_
    refine W.nil ?_
    refine E.thenN ?_
    refine WC.ret ?_
    refine E.ret1 rfl rfl ?_
    exact ⟨by rw [taken, if_neg (by rw [c0]; simp)]; rfl, L1_1⟩

theorem taken_lt (p : Nat) : taken p < 18446744073709551616 := Nat.lt_trans ((right_iff _).1 (right_taken p)).2.1 (by decide)

theorem scale_ok (p k : Nat) (hp : p < 18446744073709551616) (w : World) : Calls Tryz.prog 46 #[.int .u64 ((p : Nat) : Int), .int .u64 ((k : Nat) : Int)] w fun e w' => e = .returned (.int .u64 ((scale p k : Nat) : Int)) ∧ Le w w' := by
  refine enter Tryz.func46 rfl rfl ?_
  have L0 := Le.refl w
  refine WC.seq ?_
  refine WC.region ?_
  refine W.any (.assign rfl) rfl rfl rfl ?_
  refine W.nil ?_
  refine E.thenN ?_
  refine WC.seq ?_
  refine WC.region ?_
  refine W.any (.move rfl) rfl rfl rfl ?_
  refine W.ef rfl rfl rfl ?_
  refine Ef.call go70 rfl rfl (taken_ok p hp w) ?_
  rintro _ w1_1 ⟨rfl, h1_1⟩
  refine ⟨_, rfl, ?_⟩
  have L1_1 := L0.trans h1_1
  refine W.any (.move rfl) rfl rfl rfl ?_
  refine W.any (.remN (k) (2305843009213688669) (k % 2305843009213688669) rfl rfl rfl rfl (by decide) (rfl)) rfl rfl rfl ?_
  refine W.ef rfl rfl rfl ?_
  refine Ef.call go69 rfl rfl (power_ok (taken p) (k % 2305843009213688669) (taken_lt p) (by omega) w1_1) ?_
  rintro _ w1_4 ⟨rfl, h1_4⟩
  refine ⟨_, rfl, ?_⟩
  have L1_4 := L1_1.trans h1_4
  refine W.any (.assign rfl) rfl rfl rfl ?_
  refine W.nil ?_
  refine E.thenN ?_
  refine WC.ret ?_
  refine E.ret1 rfl rfl ?_
  exact ⟨rfl, L1_4⟩

theorem base_ok (k : Nat) (w : World) : Calls Tryz.prog 23 #[.int .u64 ((k : Nat) : Int)] w fun e w' => e = .returned (.int .u64 ((base k : Nat) : Int)) ∧ Le w w' := by
  refine enter Tryz.func23 rfl rfl ?_
  have L0 := Le.refl w
  refine WC.seq ?_
  refine WC.region ?_
  refine W.any (.assign rfl) rfl rfl rfl ?_
  refine W.nil ?_
  refine E.thenN ?_
  refine WC.seq ?_
  refine WC.region ?_
  refine W.any (.move rfl) rfl rfl rfl ?_
  refine W.ef rfl rfl rfl ?_
  refine Ef.call go46 rfl rfl (scale_ok 4 k (by decide) w) ?_
  rintro _ w1_1 ⟨rfl, h1_1⟩
  refine ⟨_, rfl, ?_⟩
  have L1_1 := L0.trans h1_1
  refine W.any (.assign rfl) rfl rfl rfl ?_
  refine W.nil ?_
  refine E.thenN ?_
  refine WC.ret ?_
  refine E.ret1 rfl rfl ?_
  exact ⟨rfl, L1_1⟩

theorem fright_ok (a : Nat) (w : World) : Calls Tryz.prog 79 #[.int .u64 ((a : Nat) : Int)] w fun e w' => e = .returned (.bool (decide (a < q))) ∧ Le w w' := by
  refine enter Tryz.func79 rfl rfl ?_
  have L0 := Le.refl w
  refine WC.seq ?_
  refine WC.region ?_
  refine W.any (.assign rfl) rfl rfl rfl ?_
  refine W.nil ?_
  refine E.thenN ?_
  refine WC.seq ?_
  refine WC.region ?_
  refine W.any (.move rfl) rfl rfl rfl ?_
  refine W.any (.lss rfl rfl) rfl rfl rfl ?_
  refine W.any (.assign rfl) rfl rfl rfl ?_
  refine W.nil ?_
  refine E.thenN ?_
  refine WC.ret ?_
  refine E.ret1 rfl rfl ?_
  exact ⟨congrArg (fun b => Ending.returned (Value.bool b)) (decide_eq_decide.2 (by rw [q_def]; omega)), L0⟩

theorem of_ok (a : Nat) (w : World) : Calls Tryz.prog 113 #[.int .u64 ((a : Nat) : Int)] w fun e w' => e = .returned (.int .u64 ((a % q : Nat) : Int)) ∧ Le w w' := by
  refine enter Tryz.func113 rfl rfl ?_
  have L0 := Le.refl w
  refine WC.seq ?_
  refine WC.region ?_
  refine W.any (.assign rfl) rfl rfl rfl ?_
  refine W.nil ?_
  refine E.thenN ?_
  refine WC.seq ?_
  refine WC.region ?_
  refine W.any (.move rfl) rfl rfl rfl ?_
  refine W.any (.remN (a) (2305843009213688669) (a % 2305843009213688669) rfl rfl rfl rfl (by decide) (rfl)) rfl rfl rfl ?_
  refine W.any (.assign rfl) rfl rfl rfl ?_
  refine W.nil ?_
  refine E.thenN ?_
  refine WC.ret ?_
  refine E.ret1 rfl rfl ?_
  exact ⟨rfl, L0⟩

theorem fmul_ok (a b : Nat) (w : World) : Calls Tryz.prog 82 #[.int .u64 ((a : Nat) : Int), .int .u64 ((b : Nat) : Int)] w fun e w' => e = .returned (.int .u64 ((mulS a b : Nat) : Int)) ∧ Le w w' := by
  refine enter Tryz.func82 rfl rfl ?_
  have L0 := Le.refl w
  refine WC.seq ?_
  refine WC.region ?_
  refine W.any (.assign rfl) rfl rfl rfl ?_
  refine W.nil ?_
  refine E.thenN ?_
  refine WC.seq ?_
  refine WC.region ?_
  refine W.any (.move rfl) rfl rfl rfl ?_
  refine W.ef rfl rfl rfl ?_
  refine Ef.call go113 rfl rfl (of_ok a w) ?_
  rintro _ w1_1 ⟨rfl, h1_1⟩
  refine ⟨_, rfl, ?_⟩
  have L1_1 := L0.trans h1_1
  refine W.any (.move rfl) rfl rfl rfl ?_
  refine W.ef rfl rfl rfl ?_
  refine Ef.call go113 rfl rfl (of_ok b w1_1) ?_
  rintro _ w1_3 ⟨rfl, h1_3⟩
  refine ⟨_, rfl, ?_⟩
  have L1_3 := L1_1.trans h1_3
  refine W.ef rfl rfl rfl ?_
  refine Ef.call go115 rfl rfl (ntimes_ok (a % q) (b % q) (mod_q_lt a) (mod_q_lt b) w1_3) ?_
  rintro _ w1_4 ⟨rfl, h1_4⟩
  refine ⟨_, rfl, ?_⟩
  have L1_4 := L1_3.trans h1_4
  refine W.any (.assign rfl) rfl rfl rfl ?_
  refine W.nil ?_
  refine E.thenN ?_
  refine WC.ret ?_
  refine E.ret1 rfl rfl ?_
  exact ⟨rfl, L1_4⟩

theorem from_ok (h : List (BitVec 8)) (hh : h.length = 32) (w : World) : Calls Tryz.prog 59 #[.agg (h.map u8v).toArray] w fun e w' => e = .returned (.int .u64 ((fromB h : Nat) : Int)) ∧ Le w w' := by
  refine enter Tryz.func59 rfl rfl ?_
  have L0 := Le.refl w
  refine WC.seq ?_
  refine WC.region ?_
  refine W.ef rfl rfl rfl ?_
  refine Ef.boxA rfl ?_
  intro g0_0 w0_0 hg0_0 b0_0 h0_0
  have L0_0 := L0.trans h0_0
  refine W.any (.assign rfl) rfl rfl rfl ?_
  refine W.nil ?_
  refine E.thenN ?_
  refine WC.seq ?_
  refine WC.region ?_
  refine W.any (.assign rfl) rfl rfl rfl ?_
  refine W.nil ?_
  refine E.thenN ?_
  refine WC.seq ?_
  refine WC.seq ?_
  refine WC.region ?_
  refine W.rd (.loadAll ag33 (by simp [hh]) rfl (b0_0)) rfl rfl rfl ?_
  refine W.any (.move rfl) rfl rfl rfl ?_
  refine W.nil ?_
  refine E.thenN ?_
  refine WC.block ?_
  refine WC.loop (ι := Nat) (fun k => [(6, .agg (h.map u8v).toArray), (7, .int .i64 (k : Int)), (3, .int .u64 ((fromTo 0 (h.take k) : Nat) : Int))]) (fun k wl => k ≤ 32 ∧ Le w wl) (fun k => 32 - k) 0 ?_ ?_ ?_
  · exact .cons rfl (.cons rfl (.cons rfl (.nil _)))
  · exact ⟨by omega, L0_0⟩
  · rintro k wl ⟨hk, Ll⟩
    have hlt : fromTo 0 (h.take k) < q - 1 := fromTo_lt _ 0 (by decide)
    have hlt2 : fromTo 0 (h.take k) < 2305843009213688668 := hlt
    refine WC.seq ?_
    refine WC.region ?_
    refine W.any (.lss rfl rfl) rfl rfl rfl ?_
    refine W.nil ?_
    refine E.thenN ?_
    refine WC.seq ?_
    refine WC.cond rfl (fun c0 => ?_) (fun c0 => ?_)
    · have hb : h[k]? = some (h.getD k 0) := by rw [List.getElem?_eq_getElem (by omega), List.getD_eq_getElem?_getD, List.getElem?_eq_getElem (by omega)]; rfl
      have hbl := (h.getD k 0).isLt
      refine WC.skip ?_
      refine E.thenN ?_
      refine WC.seq ?_
      refine WC.block ?_
      refine WC.seq ?_
      refine WC.region ?_
      refine W.any (.as (Any.idxV k Tryz.underlying33 Tryz.underlying5 sz5 hh rfl rfl rfl (by omega)) (show u8v (h.getD k 0) = _ from rfl)) rfl rfl rfl ?_
      refine W.any (.assign rfl) rfl rfl rfl ?_
      refine W.nil ?_
      refine E.thenN ?_
      refine WC.region ?_
      refine W.any (.move rfl) rfl rfl rfl ?_
      refine W.any (.shrE (fromTo 0 (h.take k)) (56) (fromTo 0 (h.take k) / 72057594037927936) rfl rfl rfl rfl (by decide) (rfl)) rfl rfl rfl ?_
      refine W.any (.move rfl) rfl rfl rfl ?_
      refine W.any (.shlN (fromTo 0 (h.take k)) (8) (fromTo 0 (h.take k) * 256 % 18446744073709551616) rfl rfl rfl rfl (by decide) (rfl)) rfl rfl rfl ?_
      refine W.any (.move rfl) rfl rfl rfl ?_
      refine W.rd (.u8to64 (isS Tryz.underlying5) Tryz.underlying28 rfl) rfl rfl rfl ?_
      refine W.any (.orE (fromTo 0 (h.take k) * 256 % 18446744073709551616) ((h.getD k 0).toNat) (fromTo 0 (h.take k) * 256 % 18446744073709551616 + (h.getD k 0).toNat) rfl rfl rfl rfl (by omega) (by omega) (or_byteM _ _ hbl)) rfl rfl rfl ?_
      refine W.ef rfl rfl rfl ?_
      refine Ef.call go84 rfl rfl (rem64_ok (fromTo 0 (h.take k) / 72057594037927936) (fromTo 0 (h.take k) * 256 % 18446744073709551616 + (h.getD k 0).toNat) 2305843009213688668 (by decide) (by decide) (by omega) wl) ?_
      rintro _ w5_7 ⟨rfl, h5_7⟩
      refine ⟨_, rfl, ?_⟩
      have L5_7 := Ll.trans h5_7
      refine W.any (.assign rfl) rfl rfl rfl ?_
      refine W.nil ?_
      refine E.blkN ?_
      refine E.thenN ?_
      refine WC.region ?_
      refine W.any (.add rfl rfl (by omega)) rfl rfl rfl ?_
      refine W.any (.move rfl) rfl rfl rfl ?_
      refine W.nil ?_
      refine E.again (k + 1) (.cons rfl (.cons rfl (.cons' rfl (int_eq (congrArg Nat.cast (by rw [fromTo_snoc h k 0 _ hb, show q - 1 = 2305843009213688668 from rfl]; congr 1; omega))) (.nil _)))) ?_ ?_
      · exact ⟨by omega, L5_7⟩
      · first | omega | (simp only []; omega)
    · have hk32 : k = 32 := by omega
      subst hk32
      refine WC.exit ?_
      refine E.thenX ?_
      refine E.thenX ?_
      refine E.blkH ?_
      refine E.thenN ?_
      refine WC.seq ?_
      refine WC.region ?_
      refine W.any (.move rfl) rfl rfl rfl ?_
      refine W.any (.addN (fromTo 0 (h.take 32)) (1) (fromTo 0 (h.take 32) + 1) rfl rfl rfl rfl (by omega)) rfl rfl rfl ?_
      refine W.any (.assign rfl) rfl rfl rfl ?_
      refine W.nil ?_
      refine E.thenN ?_
      refine WC.ret ?_
      refine E.ret1 rfl rfl ?_
      exact ⟨by rw [fromB, List.take_of_length_le (by omega)], Ll⟩



theorem all2_ok (a b g : Nat) (ha : a < 18446744073709551616) (hb : b < 18446744073709551616) (w : World) (hB : Blk w g 35 #[.int .u64 ((a : Nat) : Int), .int .u64 ((b : Nat) : Int)]) : Calls Tryz.prog 104 #[.slice (some ⟨g, 0, none⟩) 2 2] w fun e w' => e = .returned (.int .u64 ((addP a b : Nat) : Int)) ∧ Le w w' := by
  refine enter Tryz.func104 rfl rfl ?_
  have L0 := Le.refl w
  refine WC.seq ?_
  refine WC.region ?_
  refine W.any (.assign rfl) rfl rfl rfl ?_
  refine W.nil ?_
  refine E.thenN ?_
  refine WC.seq ?_
  refine WC.region ?_
  refine W.any (.assign rfl) rfl rfl rfl ?_
  refine W.nil ?_
  refine E.thenN ?_
  refine WC.seq ?_
  refine WC.seq ?_
  refine WC.region ?_
  refine W.any (.move rfl) rfl rfl rfl ?_
  refine W.rd (.len Tryz.underlying22 rfl) rfl rfl rfl ?_
  refine W.any (.move rfl) rfl rfl rfl ?_
  refine W.nil ?_
  refine E.thenN ?_
  refine WC.block ?_
  refine WC.loop (ι := Nat × Nat) (fun ⟨k, out⟩ => [(3, .int .u64 ((out : Nat) : Int)), (6, .slice (some ⟨g, 0, none⟩) 2 2), (7, .int .i64 2), (8, .int .i64 (k : Int))]) (fun ⟨k, out⟩ wl => k ≤ 2 ∧ Le w wl ∧ out = (if k = 0 then 1 else if k = 1 then 1 * taken a % M else (1 * taken a % M) * taken b % M)) (fun ⟨k, out⟩ => 2 - k) (0, 1) ?_ ?_ ?_
  · exact .cons rfl (.cons rfl (.cons rfl (.cons rfl (.nil _))))
  · exact ⟨by omega, L0, rfl⟩
  · rintro ⟨k, out⟩ wl ⟨hk, Ll, ho⟩
    refine WC.seq ?_
    refine WC.region ?_
    refine W.any (.lss rfl rfl) rfl rfl rfl ?_
    refine W.nil ?_
    refine E.thenN ?_
    refine WC.seq ?_
    refine WC.cond rfl (fun c0 => ?_) (fun c0 => ?_)
    · have hk2 : k = 0 ∨ k = 1 := by omega
      have ho2 : out < 18446744073709551616 := by
        rw [ho]; rcases hk2 with rfl | rfl
        · rw [if_pos rfl]; decide
        · rw [if_neg (by decide), if_pos rfl]; exact Nat.lt_trans (Nat.mod_lt _ (by decide)) (by decide)
      obtain ⟨p, hp1, hp2, hp3⟩ : ∃ p : Nat, (#[.int .u64 ((a : Nat) : Int), .int .u64 ((b : Nat) : Int)] : Array Value)[k]? = some (.int .u64 ((p : Nat) : Int)) ∧ (if k = 0 then a else b) = p ∧ p < 18446744073709551616 := by
        rcases hk2 with rfl | rfl
        · exact ⟨a, rfl, rfl, ha⟩
        · exact ⟨b, rfl, rfl, hb⟩
      have hstep : out * taken p % M = (if k + 1 = 0 then 1 else if k + 1 = 1 then 1 * taken a % M else (1 * taken a % M) * taken b % M) := by
        rw [ho, ← hp2]; rcases hk2 with rfl | rfl <;> rfl
      refine WC.skip ?_
      refine E.thenN ?_
      refine WC.seq ?_
      refine WC.block ?_
      refine WC.seq ?_
      refine WC.region ?_
      refine W.any (.idxB1 (k) Tryz.underlying22 sz35 rfl rfl (rfl) (by omega)) rfl rfl rfl ?_
      refine W.rd (.loadB na35 rfl (hB.le Ll) (hp1)) rfl rfl rfl ?_
      refine W.any (.assign rfl) rfl rfl rfl ?_
      refine W.nil ?_
      refine E.thenN ?_
      refine WC.region ?_
      refine W.any (.move rfl) rfl rfl rfl ?_
      refine W.any (.move rfl) rfl rfl rfl ?_
      refine W.ef rfl rfl rfl ?_
      refine Ef.call go70 rfl rfl (taken_ok p hp3 wl) ?_
      rintro _ w5_2 ⟨rfl, h5_2⟩
      refine ⟨_, rfl, ?_⟩
      have L5_2 := Ll.trans h5_2
      refine W.ef rfl rfl rfl ?_
      refine Ef.call go102 rfl rfl (times_ok out (taken p) ho2 (taken_lt p) w5_2) ?_
      rintro _ w5_3 ⟨rfl, h5_3⟩
      refine ⟨_, rfl, ?_⟩
      have L5_3 := L5_2.trans h5_3
      refine W.any (.assign rfl) rfl rfl rfl ?_
      refine W.nil ?_
      refine E.blkN ?_
      refine E.thenN ?_
      refine WC.region ?_
      refine W.any (.add rfl rfl (by omega)) rfl rfl rfl ?_
      refine W.any (.move rfl) rfl rfl rfl ?_
      refine W.nil ?_
      refine E.again (k + 1, out * taken p % M) (.cons rfl (.cons rfl (.cons rfl (.cons rfl (.nil _))))) ?_ ?_
      · exact ⟨by omega, L5_3, hstep⟩
      · first | omega | (simp only []; omega)
    · have hk2 : k = 2 := by omega
      subst hk2
      have hres : out = addP a b := by rw [ho, addP, Nat.one_mul]; simp only [Nat.reduceEqDiff, if_false]; rw [Nat.mul_mod, Nat.mod_mod, ← Nat.mul_mod]
      refine WC.exit ?_
      refine E.thenX ?_
      refine E.thenX ?_
      refine E.blkH ?_
      refine E.thenN ?_
      refine WC.seq ?_
      refine WC.region ?_
      refine W.any (.move rfl) rfl rfl rfl ?_
      refine W.any (.assign rfl) rfl rfl rfl ?_
      refine W.nil ?_
      refine E.thenN ?_
      refine WC.ret ?_
      refine E.ret1 rfl rfl ?_
      exact ⟨by rw [hres], Ll⟩

theorem padd_ok (a b : Nat) (ha : a < 18446744073709551616) (hb : b < 18446744073709551616) (w : World) : Calls Tryz.prog 80 #[.int .u64 ((a : Nat) : Int), .int .u64 ((b : Nat) : Int)] w fun e w' => e = .returned (.int .u64 ((addP a b : Nat) : Int)) ∧ Le w w' := by
  refine enter Tryz.func80 rfl rfl ?_
  have L0 := Le.refl w
  refine WC.seq ?_
  refine WC.region ?_
  refine W.any (.assign rfl) rfl rfl rfl ?_
  refine W.nil ?_
  refine E.thenN ?_
  refine WC.seq ?_
  refine WC.region ?_
  refine W.any (.move rfl) rfl rfl rfl ?_
  refine W.any (.move rfl) rfl rfl rfl ?_
  refine W.ef rfl rfl rfl ?_
  refine Ef.buildSliceN [_, _] Tryz.underlying22 el35 rfl (by intro v hv; simp at hv; rcases hv with rfl | rfl <;> rfl) rfl (by decide) (by decide) ?_
  intro g1_2 w1_2 hg1_2 b1_2 h1_2
  have L1_2 := L0.trans h1_2
  refine W.ef rfl rfl rfl ?_
  refine Ef.call go104 rfl rfl (all2_ok a b g1_2 ha hb w1_2 b1_2) ?_
  rintro _ w1_3 ⟨rfl, h1_3⟩
  refine ⟨_, rfl, ?_⟩
  have L1_3 := L1_2.trans h1_3
  refine W.any (.assign rfl) rfl rfl rfl ?_
  refine W.nil ?_
  refine E.thenN ?_
  refine WC.ret ?_
  refine E.ret1 rfl rfl ?_
  exact ⟨rfl, L1_3⟩
end Go.Proofs.YtbpfhenbcgjpcaaGreat

namespace Go.Proofs.YtbpfhenbcgjpcaaGreat
open Go Go.Sx Go.Hsp Go.Num Go.Osp
set_option maxRecDepth 20000
theorem flatten_snoc (ps : List (List Byte)) (k : Nat) (q : List Byte) (h : ps[k]? = some q) : (ps.take (k + 1)).flatten = (ps.take k).flatten ++ q := by
  rw [List.take_add_one, h]; simp
theorem flatten_take_le : ∀ (ps : List (List Byte)) (k : Nat), (ps.take k).flatten.length ≤ ps.flatten.length
  | [], k => by simp
  | p :: ps, 0 => by simp
  | p :: ps, k + 1 => by
    have := flatten_take_le ps k
    simp only [List.take_succ_cons, List.flatten_cons, List.length_append]; omega
theorem grow_ok (m : Nat) (h0 : 0 < m) (hm : m ≤ 1000000) (w : World) : Calls Tryz.prog 106 #[.slice none 0 0, .int .i64 (m : Int)] w fun e w' => ∃ A c, e = .returned (.slice A 0 c) ∧ Own w' w.heap.size 5 1 A 0 c [] ∧ Le w w' := by
  refine enter Tryz.func106 rfl rfl ?_
  have L0 := Le.refl w
  refine WC.seq ?_
  refine WC.region ?_
  refine W.any (.assign rfl) rfl rfl rfl ?_
  refine W.nil ?_
  refine E.thenN ?_
  refine WC.seq ?_
  refine WC.seq ?_
  refine WC.region ?_
  refine W.any (.move rfl) rfl rfl rfl ?_
  refine W.any (.lss rfl rfl) rfl rfl rfl ?_
  refine W.nil ?_
  refine E.thenN ?_
  refine WC.condB rfl (fun h => absurd h (by simp)) (fun _ => ?_)
  refine WC.skip ?_
  refine E.thenN ?_
  refine WC.seq ?_
  refine WC.seq ?_
  refine WC.region ?_
  refine W.any (.move rfl) rfl rfl rfl ?_
  refine W.any (.move rfl) rfl rfl rfl ?_
  refine W.rd (.cap Tryz.underlying64 rfl rfl) rfl rfl rfl ?_
  refine W.any (.move rfl) rfl rfl rfl ?_
  refine W.rd (.len Tryz.underlying64 rfl) rfl rfl rfl ?_
  refine W.any (.sub rfl rfl (by omega)) rfl rfl rfl ?_
  refine W.any (.sub rfl rfl (by omega)) rfl rfl rfl ?_
  refine W.any (.assign rfl) rfl rfl rfl ?_
  refine W.nil ?_
  refine E.thenN ?_
  refine WC.seq ?_
  refine WC.region ?_
  refine W.any (.move rfl) rfl rfl rfl ?_
  refine W.any (.gtr rfl rfl) rfl rfl rfl ?_
  refine W.nil ?_
  refine E.thenN ?_
  refine WC.condB rfl (fun _ => ?_) (fun h => absurd h (by simp; omega))
  refine WC.region ?_
  refine W.any (.move rfl) rfl rfl rfl ?_
  refine W.any (.move rfl) rfl rfl rfl ?_
  refine W.rd (.cap Tryz.underlying64 rfl rfl) rfl rfl rfl ?_
  refine W.any (.cutH (0) Tryz.underlying64 sz5 rfl rfl (rfl) (by decide)) rfl rfl rfl ?_
  refine W.any (.move rfl) rfl rfl rfl ?_
  refine W.ef rfl rfl rfl ?_
  refine Ef.appendZ m Tryz.underlying64 Tryz.underlying3 el5 rfl rfl (Own.nil _ _ _ _ _) rfl (by omega) h0 (by omega) (by unfold maxLen; omega) (Nat.le_refl _) ?_
  intro A5 c5 w5_5 o5 h5_5 at5
  have L5_5 : Le w w5_5 := L0.then_ h5_5 (fun q hq => by simp [rowOf_zero] at hq)
  refine W.any (.move rfl) rfl rfl rfl ?_
  refine W.rd (.len Tryz.underlying64 rfl) rfl rfl rfl ?_
  refine W.any (.cutH (0) Tryz.underlying64 sz5 rfl rfl (rfl) (Nat.zero_le _)) rfl rfl rfl ?_
  refine W.any (.assign rfl) rfl rfl rfl ?_
  refine W.nil ?_
  refine E.thenN ?_
  refine WC.seq ?_
  refine WC.region ?_
  refine W.any (.move rfl) rfl rfl rfl ?_
  refine W.any (.assign rfl) rfl rfl rfl ?_
  refine W.nil ?_
  refine E.thenN ?_
  refine WC.ret ?_
  refine E.ret1 rfl rfl ?_
  exact ⟨A5, c5, rfl, (o5.front 0 (Nat.zero_le _)).cast rfl (by simp), L5_5⟩

theorem concat_ok {A : Option Addr} {n c : Nat} {vs : List Value} {ps : List (List Byte)} (w : World) (hV : Sl w 1 A n vs) (hP : Parts w vs ps) (h0 : 0 < ps.flatten.length) (hT : ps.flatten.length ≤ 1000000) (hn : n ≤ 1000) : Calls Tryz.prog 72 #[.slice A n c] w fun e w' => ∃ A' c', e = .returned (.slice A' ps.flatten.length c') ∧ Own w' w.heap.size 5 1 A' ps.flatten.length c' (ps.flatten.map u8v) ∧ Le w w' := by
  have hvl := hV.1
  rw [Nat.mul_one] at hvl
  have hpl := hP.1
  have hgr : ∀ w, Calls Tryz.prog 106 #[.slice none 0 0, .int .i64 (((ps.take n).flatten.length : Nat) : Int)] w fun e w' => ∃ A c, e = .returned (.slice A 0 c) ∧ Own w' w.heap.size 5 1 A 0 c [] ∧ Le w w' := fun w => by
    rw [List.take_of_length_le (by omega)]
    exact grow_ok _ h0 hT w
  refine enter Tryz.func72 rfl rfl ?_
  have L0 := Le.refl w
  refine WC.seq ?_
  refine WC.region ?_
  refine W.any (.assign rfl) rfl rfl rfl ?_
  refine W.nil ?_
  refine E.thenN ?_
  refine WC.seq ?_
  refine WC.region ?_
  refine W.any (.assign rfl) rfl rfl rfl ?_
  refine W.nil ?_
  refine E.thenN ?_
  refine WC.seq ?_
  refine WC.seq ?_
  refine WC.region ?_
  refine W.any (.move rfl) rfl rfl rfl ?_
  refine W.rd (.len Tryz.underlying91 rfl) rfl rfl rfl ?_
  refine W.any (.move rfl) rfl rfl rfl ?_
  refine W.nil ?_
  refine E.thenN ?_
  refine WC.block ?_
  refine WC.loop (ι := Nat) (fun k => [(0, .slice A n c), (3, .int .i64 (((ps.take k).flatten.length : Nat) : Int)), (9, .slice A n c), (10, .int .i64 (n : Int)), (11, .int .i64 (k : Int))]) (fun k wl => k ≤ n ∧ Le w wl) (fun k => n - k) 0 ?_ ?_ ?_
  · exact .cons rfl (.cons rfl (.cons rfl (.cons rfl (.cons rfl (.nil _)))))
  · exact ⟨Nat.zero_le _, L0⟩
  · rintro k wl ⟨hk, Ll⟩
    have hle := flatten_take_le ps k
    refine WC.seq ?_
    refine WC.region ?_
    refine W.any (.lss rfl rfl) rfl rfl rfl ?_
    refine W.nil ?_
    refine E.thenN ?_
    refine WC.seq ?_
    refine WC.cond rfl (fun c0 => ?_) (fun c0 => ?_)
    · obtain ⟨q, hq⟩ : ∃ q, ps[k]? = some q := ⟨_, List.getElem?_eq_getElem (by omega)⟩
      obtain ⟨v, hv⟩ : ∃ v, vs[k]? = some v := ⟨_, List.getElem?_eq_getElem (by omega)⟩
      obtain ⟨Aq, cq, rfl, hq2⟩ := hP.2 k v q hv hq
      have hle2 := flatten_take_le ps (k + 1)
      rw [flatten_snoc ps k q hq, List.length_append] at hle2
      refine WC.skip ?_
      refine E.thenN ?_
      refine WC.seq ?_
      refine WC.block ?_
      refine WC.seq ?_
      refine WC.region ?_
      refine W.any (.idxS1 (k) Tryz.underlying91 sz64 rfl rfl (hV.isSome (j := k) (by omega) (by decide)) (rfl) (by omega)) rfl rfl rfl ?_
      refine W.rd (.loadS na64 rfl (hV.le Ll) (hv)) rfl rfl rfl ?_
      refine W.any (.assign rfl) rfl rfl rfl ?_
      refine W.nil ?_
      refine E.thenN ?_
      refine WC.seq ?_
      refine WC.region ?_
      refine W.any (.move rfl) rfl rfl rfl ?_
      refine W.any (.move rfl) rfl rfl rfl ?_
      refine W.rd (.len Tryz.underlying64 rfl) rfl rfl rfl ?_
      refine W.any (.add rfl rfl (by omega)) rfl rfl rfl ?_
      refine W.any (.assign rfl) rfl rfl rfl ?_
      refine W.nil ?_
      refine E.thenN ?_
      refine WC.seq ?_
      refine WC.region ?_
      refine W.any (.move rfl) rfl rfl rfl ?_
      refine W.any (.lss rfl rfl) rfl rfl rfl ?_
      refine W.nil ?_
      refine E.thenN ?_
      refine WC.condB rfl (fun h => absurd h (by simp; omega)) (fun _ => ?_)
      refine WC.skip ?_
      refine E.blkN ?_
      refine E.thenN ?_
      refine WC.region ?_
      refine W.any (.add rfl rfl (by omega)) rfl rfl rfl ?_
      refine W.any (.move rfl) rfl rfl rfl ?_
      refine W.nil ?_
      refine E.again (k + 1) (.cons rfl (.cons' rfl (int_eq (by rw [flatten_snoc ps k q hq, List.length_append, Int.natCast_add])) (.cons rfl (.cons rfl (.cons rfl (.nil _)))))) ?_ ?_
      · exact ⟨by omega, Ll⟩
      · first | omega | (simp only []; omega)
    · have hkn : n = k := by omega
      subst hkn
      rw [List.take_of_length_le (by omega)] at hle
      refine WC.exit ?_
      refine E.thenX ?_
      refine E.thenX ?_
      refine E.blkH ?_
      refine E.thenN ?_
      refine WC.seq ?_
      refine WC.region ?_
      refine W.any (.move rfl) rfl rfl rfl ?_
      refine W.ef rfl rfl rfl ?_
      refine Ef.call go106 rfl rfl (hgr wl) ?_
      rintro _ w9_1 ⟨A9, c9, rfl, o9, h9_1⟩
      refine ⟨_, rfl, ?_⟩
      have L9_1 := Ll.trans h9_1
      have o9 := o9.mono Ll.size
      refine W.any (.assign rfl) rfl rfl rfl ?_
      refine W.nil ?_
      refine E.thenN ?_
      refine WC.seq ?_
      refine WC.seq ?_
      refine WC.region ?_
      refine W.any (.move rfl) rfl rfl rfl ?_
      refine W.rd (.len Tryz.underlying91 rfl) rfl rfl rfl ?_
      refine W.any (.move rfl) rfl rfl rfl ?_
      refine W.nil ?_
      refine E.thenN ?_
      refine WC.block ?_
      refine WC.loop (ι := Nat × Option Addr × Nat) (fun ⟨k, A1, c1⟩ => [(6, .slice A1 ((ps.take k).flatten.length) c1), (25, .slice A n c), (26, .int .i64 (n : Int)), (27, .int .i64 (k : Int))]) (fun ⟨k, A1, c1⟩ wm => k ≤ n ∧ Le w wm ∧ Own wm w.heap.size 5 1 A1 ((ps.take k).flatten.length) c1 ((ps.take k).flatten.map u8v)) (fun ⟨k, A1, c1⟩ => n - k) (0, A9, c9) ?_ ?_ ?_
      · exact .cons rfl (.cons rfl (.cons rfl (.cons rfl (.nil _))))
      · exact ⟨Nat.zero_le _, L9_1, o9⟩
      · rintro ⟨k, A1, c1⟩ wm ⟨hk, Lm, om⟩
        refine WC.seq ?_
        refine WC.region ?_
        refine W.any (.lss rfl rfl) rfl rfl rfl ?_
        refine W.nil ?_
        refine E.thenN ?_
        refine WC.seq ?_
        refine WC.cond rfl (fun c2 => ?_) (fun c2 => ?_)
        · obtain ⟨q, hq⟩ : ∃ q, ps[k]? = some q := ⟨_, List.getElem?_eq_getElem (by omega)⟩
          obtain ⟨v, hv⟩ : ∃ v, vs[k]? = some v := ⟨_, List.getElem?_eq_getElem (by omega)⟩
          obtain ⟨Aq, cq, rfl, hq2⟩ := hP.2 k v q hv hq
          have hle2 := flatten_take_le ps (k + 1)
          rw [flatten_snoc ps k q hq, List.length_append] at hle2
          refine WC.skip ?_
          refine E.thenN ?_
          refine WC.seq ?_
          refine WC.block ?_
          refine WC.seq ?_
          refine WC.region ?_
          refine W.any (.idxS1 (k) Tryz.underlying91 sz64 rfl rfl (hV.isSome (j := k) (by omega) (by decide)) (rfl) (by omega)) rfl rfl rfl ?_
          refine W.rd (.loadS na64 rfl (hV.le Lm) (hv)) rfl rfl rfl ?_
          refine W.any (.assign rfl) rfl rfl rfl ?_
          refine W.nil ?_
          refine E.thenN ?_
          refine WC.region ?_
          refine W.any (.move rfl) rfl rfl rfl ?_
          refine W.any (.move rfl) rfl rfl rfl ?_
          refine W.ef rfl rfl rfl ?_
          refine Ef.append Tryz.underlying64 el5 rfl (om) rfl ((hq2.le Lm).src Tryz.underlying64 _) (by omega) (by unfold maxLen; omega) (Lm.size) ?_
          intro A13_2 c13_2 w13_2 o13_2 h13_2 at13_2
          have L13_2 : Le w w13_2 := Lm.then_ h13_2 (fun q hq => (om.row hq).1)
          refine W.any (.assign rfl) rfl rfl rfl ?_
          refine W.nil ?_
          refine E.blkN ?_
          refine E.thenN ?_
          refine WC.region ?_
          refine W.any (.add rfl rfl (by omega)) rfl rfl rfl ?_
          refine W.any (.move rfl) rfl rfl rfl ?_
          refine W.nil ?_
          refine E.again (k + 1, A13_2, c13_2) (.cons' rfl (slice_eq (by rw [flatten_snoc ps k q hq, List.length_append])) (.cons rfl (.cons rfl (.cons rfl (.nil _))))) ?_ ?_
          · exact ⟨by omega, L13_2, o13_2.cast (by rw [flatten_snoc ps k q hq, List.length_append]) (by rw [flatten_snoc ps k q hq, List.map_append])⟩
          · first | omega | (simp only []; omega)
        · have hkn : n = k := by omega
          subst hkn
          rw [List.take_of_length_le (by omega)] at om
          refine WC.exit ?_
          refine E.thenX ?_
          refine E.thenX ?_
          refine E.blkH ?_
          refine E.thenN ?_
          refine WC.seq ?_
          refine WC.region ?_
          refine W.any (.move rfl) rfl rfl rfl ?_
          refine W.any (.assign rfl) rfl rfl rfl ?_
          refine W.nil ?_
          refine E.thenN ?_
          refine WC.ret ?_
          refine E.ret1 rfl rfl ?_
          exact ⟨A1, c1, by rw [List.take_of_length_le (by omega)], om, Lm⟩

theorem plus_ok (a b : Nat) (ha : a < 2305843009213688669) (hb : b < 2305843009213688669) (w : World) : Calls Tryz.prog 114 #[.int .u64 ((a : Nat) : Int), .int .u64 ((b : Nat) : Int)] w fun e w' => e = .returned (.int .u64 (((a + b) % q : Nat) : Int)) ∧ Le w w' := by
  refine enter Tryz.func114 rfl rfl ?_
  have L0 := Le.refl w
  refine WC.seq ?_
  refine WC.region ?_
  refine W.any (.assign rfl) rfl rfl rfl ?_
  refine W.nil ?_
  refine E.thenN ?_
  refine WC.seq ?_
  refine WC.region ?_
  refine W.any (.move rfl) rfl rfl rfl ?_
  refine W.any (.move rfl) rfl rfl rfl ?_
  refine W.any (.addN (a) (b) (a + b) rfl rfl rfl rfl (Nat.mod_eq_of_lt (by omega))) rfl rfl rfl ?_
  refine W.any (.remN (a + b) (2305843009213688669) ((a + b) % 2305843009213688669) rfl rfl rfl rfl (by decide) (rfl)) rfl rfl rfl ?_
  refine W.any (.assign rfl) rfl rfl rfl ?_
  refine W.nil ?_
  refine E.thenN ?_
  refine WC.ret ?_
  refine E.ret1 rfl rfl ?_
  exact ⟨rfl, L0⟩

theorem fadd_ok (a b : Nat) (w : World) : Calls Tryz.prog 81 #[.int .u64 ((a : Nat) : Int), .int .u64 ((b : Nat) : Int)] w fun e w' => e = .returned (.int .u64 ((addS a b : Nat) : Int)) ∧ Le w w' := by
  refine enter Tryz.func81 rfl rfl ?_
  have L0 := Le.refl w
  refine WC.seq ?_
  refine WC.region ?_
  refine W.any (.assign rfl) rfl rfl rfl ?_
  refine W.nil ?_
  refine E.thenN ?_
  refine WC.seq ?_
  refine WC.region ?_
  refine W.any (.move rfl) rfl rfl rfl ?_
  refine W.ef rfl rfl rfl ?_
  refine Ef.call go113 rfl rfl (of_ok a w) ?_
  rintro _ w1_1 ⟨rfl, h1_1⟩
  refine ⟨_, rfl, ?_⟩
  have L1_1 := L0.trans h1_1
  refine W.any (.move rfl) rfl rfl rfl ?_
  refine W.ef rfl rfl rfl ?_
  refine Ef.call go113 rfl rfl (of_ok b w1_1) ?_
  rintro _ w1_3 ⟨rfl, h1_3⟩
  refine ⟨_, rfl, ?_⟩
  have L1_3 := L1_1.trans h1_3
  refine W.ef rfl rfl rfl ?_
  refine Ef.call go114 rfl rfl (plus_ok (a % q) (b % q) (Nat.mod_lt _ (by decide)) (Nat.mod_lt _ (by decide)) w1_3) ?_
  rintro _ w1_4 ⟨rfl, h1_4⟩
  refine ⟨_, rfl, ?_⟩
  have L1_4 := L1_3.trans h1_4
  refine W.any (.assign rfl) rfl rfl rfl ?_
  refine W.nil ?_
  refine E.thenN ?_
  refine WC.ret ?_
  refine E.ret1 rfl rfl ?_
  exact ⟨rfl, L1_4⟩
end Go.Proofs.YtbpfhenbcgjpcaaGreat

namespace Go.Proofs.YtbpfhenbcgjpcaaGreat
open Go Go.Sx Go.Hsp Go.Num Go.Osp Go.Gsp
set_option maxRecDepth 20000
set_option linter.unusedVariables false
set_option linter.unusedSimpArgs false
def polV (p : Pol) : List Value := [.int .i64 p.b, .int .i64 p.p, .int .i64 p.d, .int .i64 p.l, .int .i64 p.m]
theorem polV_row : RowF polV 5 := ⟨fun _ => rfl, fun x v hv => by simp [polV] at hv; rcases hv with rfl | rfl | rfl | rfl | rfl <;> rfl, by decide⟩
def edgeV (e : Gsp.Edge) : List Value := [.int .i64 e.f, .int .i64 e.t, .int .i64 e.c, .int .i64 e.r, .int .i64 e.pol.b, .int .i64 e.pol.p, .int .i64 e.pol.d, .int .i64 e.pol.l, .int .i64 e.pol.m]
theorem edgeV_row : RowF edgeV 9 := ⟨fun _ => rfl, fun x v hv => by simp [edgeV] at hv; rcases hv with rfl | rfl | rfl | rfl | rfl | rfl | rfl | rfl | rfl <;> rfl, by decide⟩
/-- The first number that is not nought. -/
def orL : List Int → Int
  | [] => 0
  | x :: l => if x ≠ 0 then x else orL l
theorem orL_skip : ∀ (l : List Int) (k : Nat), (∀ j, j < k → l.getD j 0 = 0) → orL l = orL (l.drop k)
  | _, 0, _ => rfl
  | [], k + 1, _ => by simp
  | x :: l, k + 1, h => by
    have h0 : x = 0 := h 0 (by omega)
    rw [orL, if_neg (by simp [h0]), List.drop_succ_cons]
    exact orL_skip l k (fun j hj => h (j + 1) (by omega))


















end Go.Proofs.YtbpfhenbcgjpcaaGreat

namespace Go.Proofs.YtbpfhenbcgjpcaaGreat
open Go Go.Sx Go.Hsp Go.Num Go.Osp Go.Gsp Go.Asp
set_option maxRecDepth 20000
set_option linter.unusedSimpArgs false
set_option linter.unusedVariables false
def sigV (s : Asp.Sig) : List Value := [.int .u64 (s.r : Nat), .int .u64 (s.s : Nat)]
theorem sigV_row : RowF sigV 2 := ⟨fun _ => rfl, fun x v hv => by simp [sigV] at hv; rcases hv with rfl | rfl <;> rfl, by decide⟩
theorem allP_lt (l : List Nat) : allP l < 18446744073709551616 := by
  have key : ∀ (l : List Nat) (o : Nat), o < M → l.foldl (fun o p => o * taken p % M) o < M := by
    intro l
    induction l with
    | nil => intro o h; exact h
    | cons p l ih => intro o h; exact ih _ (Nat.mod_lt _ (by decide))
  exact Nat.lt_trans (key l 1 (by decide)) (by decide)
theorem allP_snoc {xs : List Nat} {k : Nat} (h : k < xs.length) : allP (xs.take (k + 1)) = allP (xs.take k) * taken (xs.getD k 0) % M := by
  rw [List.take_add_one, getS xs 0 h]
  simp [allP, -List.getD_eq_getElem?_getD]
theorem negP_lt (p : Nat) : negP p < 18446744073709551616 := Nat.lt_trans (pw_lt _ _ (by decide)) (by decide)
theorem scale_lt' (p k : Nat) : scale p k < 18446744073709551616 := Nat.lt_trans (scale_lt p k) (by decide)
theorem base_lt' (k : Nat) : base k < 18446744073709551616 := scale_lt' 4 k
theorem all3 {a b c T : Nat} (h1 : a < T) (h2 : b < T) (h3 : c < T) : ∀ x ∈ [a, b, c], x < T := by
  intro x hx
  simp only [List.mem_cons, List.not_mem_nil, or_false] at hx
  rcases hx with rfl | rfl | rfl <;> assumption
theorem addP_lt' (a b : Nat) : addP a b < 18446744073709551616 := Nat.lt_trans (Nat.mod_lt _ (by decide)) (by decide : M < 18446744073709551616)
theorem seight_ok (m : Nat) (w : World) : Calls Tryz.prog 60 #[.int .u64 ((m : Nat) : Int)] w fun e w' => ∃ g, e = .returned (.slice (some ⟨g, 0, none⟩) 8 8) ∧ w.heap.size ≤ g ∧ Blk w' g 5 ((be8 m).map u8v).toArray ∧ Le w w' := by
  refine enter Tryz.func60 rfl rfl ?_
  have L0 := Le.refl w
  refine WC.seq ?_
  refine WC.region ?_
  refine W.any (.assign rfl) rfl rfl rfl ?_
  refine W.nil ?_
  refine E.thenN ?_
  refine WC.seq ?_
  refine WC.region ?_
  refine W.ef rfl rfl rfl ?_
  refine Ef.makeSlice 8 8 Tryz.underlying64 el5 rfl rfl rfl rfl (by decide) (by decide) (by decide) ?_
  intro g1_0 w1_0 hg1_0 b1_0 h1_0
  have L1_0 := L0.trans h1_0
  refine W.any (.assign rfl) rfl rfl rfl ?_
  refine W.nil ?_
  refine E.thenN ?_
  refine WC.seq ?_
  refine WC.seq ?_
  refine WC.region ?_
  refine W.any (.move rfl) rfl rfl rfl ?_
  refine W.rd (.len Tryz.underlying64 rfl) rfl rfl rfl ?_
  refine W.any (.move rfl) rfl rfl rfl ?_
  refine W.nil ?_
  refine E.thenN ?_
  refine WC.block ?_
  refine WC.loop (ι := Nat) (fun k => [(0, .int .u64 ((m : Nat) : Int)), (3, .slice (some ⟨g1_0, 0, none⟩) 8 8), (7, .int .i64 8), (8, .int .i64 (k : Int))]) (fun k wl => k ≤ 8 ∧ Le w wl ∧ Blk wl g1_0 5 (((be8To m k) ++ List.replicate (8 - k) 0#8).map u8v).toArray) (fun k => 8 - k) 0 ?_ ?_ ?_
  · exact .cons rfl (.cons rfl (.cons rfl (.cons rfl (.nil _))))
  · exact ⟨by omega, L1_0, b1_0.cast (made_u8 8)⟩
  · rintro k wl ⟨hk8, Ll, b1⟩
    have hbl : (be8To m k).length = k := by simp [be8To, be8_length]; omega
    refine WC.seq ?_
    refine WC.region ?_
    refine W.any (.lss rfl rfl) rfl rfl rfl ?_
    refine W.nil ?_
    refine E.thenN ?_
    refine WC.seq ?_
    refine WC.cond rfl (fun c0 => ?_) (fun c0 => ?_)
    · refine WC.skip ?_
      refine E.thenN ?_
      refine WC.seq ?_
      refine WC.block ?_
      refine WC.seq ?_
      refine WC.region ?_
      refine W.any (.move rfl) rfl rfl rfl ?_
      refine W.any (.assign rfl) rfl rfl rfl ?_
      refine W.nil ?_
      refine E.thenN ?_
      refine WC.region ?_
      refine W.any (.move rfl) rfl rfl rfl ?_
      refine W.any (.move rfl) rfl rfl rfl ?_
      refine W.any (.move rfl) rfl rfl rfl ?_
      refine W.any (.move rfl) rfl rfl rfl ?_
      refine W.any (.mul rfl rfl (by omega)) rfl rfl rfl ?_
      refine W.any (.sub rfl rfl (by omega)) rfl rfl rfl ?_
      refine W.any (.shrN m (56 - 8 * k) rfl rfl rfl (by omega) (by show 56 - 8 * k ≤ 64; omega)) rfl rfl rfl ?_
      refine W.rd (.toU8 (m >>> (56 - 8 * k)) (isS Tryz.underlying28) Tryz.underlying5 rfl rfl) rfl rfl rfl ?_
      refine W.any (.idxB1 (k) Tryz.underlying64 sz5 rfl rfl (rfl) (by omega)) rfl rfl rfl ?_
      refine W.ef0 rfl rfl ?_
      refine Ef.store sz5 rfl rfl (b1) (by simp; omega) (rfl) ?_
      intro w5_9 b5_9 h5_9
      have L5_9 : Le w w5_9 := Ll.then_ h5_9 (fun q hq => by cases hq; exact hg1_0)
      refine W.nil ?_
      refine E.blkN ?_
      refine E.thenN ?_
      refine WC.region ?_
      refine W.any (.add rfl rfl (by omega)) rfl rfl rfl ?_
      refine W.any (.move rfl) rfl rfl rfl ?_
      refine W.nil ?_
      refine E.again (k + 1) (.cons rfl (.cons rfl (.cons rfl (.cons rfl (.nil _))))) ?_ ?_
      · exact ⟨by omega, L5_9, b5_9.cast (by rw [fill_set u8v (be8To m k) 0#8 _ 8 k hbl (by omega), be8To_succ m k (by omega)])⟩
      · first | omega | (simp only []; omega)
    · have hk8 : k = 8 := by omega
      subst hk8
      have b1 : Blk wl g1_0 5 ((be8 m).map u8v).toArray := b1
      refine WC.exit ?_
      refine E.thenX ?_
      refine E.thenX ?_
      refine E.blkH ?_
      refine E.thenN ?_
      refine WC.seq ?_
      refine WC.region ?_
      refine W.any (.move rfl) rfl rfl rfl ?_
      refine W.any (.assign rfl) rfl rfl rfl ?_
      refine W.nil ?_
      refine E.thenN ?_
      refine WC.ret ?_
      refine E.ret1 rfl rfl ?_
      exact ⟨g1_0, rfl, hg1_0, b1, Ll⟩

theorem chal_ok (rr p : Nat) (m : List (BitVec 8)) (hm : m.length = 32) (w : World) : Calls Tryz.prog 83 #[.int .u64 (((rr : Nat) : Int)), .int .u64 (((p : Nat) : Int)), .agg (m.map u8v).toArray] w fun r w' => r = .returned (.int .u64 ((chalB rr p m : Nat) : Int)) ∧ Le w w' := by
  refine enter Tryz.func83 rfl rfl ?_
  have L0 := Le.refl w
  refine WC.seq ?_
  refine WC.region ?_
  refine W.ef rfl rfl rfl ?_
  refine Ef.boxA rfl ?_
  intro g0_0 w0_0 hg0_0 b0_0 h0_0
  have L1 := L0.trans h0_0
  have b0_0 : Blk w0_0 g0_0 33 (m.map u8v).toArray := b0_0
  refine W.any (.assign rfl) rfl rfl rfl ?_
  refine W.nil ?_
  refine E.thenN ?_
  refine WC.seq ?_
  refine WC.draw [0, 2, 4, 1, 3, 5, 6, 7, 8] mixed (by kernel_rfl) ?_
  intro w1 d1
  have L2 := L1.trans d1
  refine G.any rfl rfl (.move rfl) rfl rfl rfl ?_
  refine G.any rfl rfl (.move rfl) rfl rfl rfl ?_
  refine G.any rfl rfl (.cutArr Tryz.underlying33 sz5 rfl) rfl rfl rfl ?_
  refine G.ef rfl rfl rfl rfl rfl ?_
  refine Ef.call go60 rfl rfl (seight_ok rr w1) ?_
  rintro _ w1_1 ⟨g1_1, rfl, hg1_1, b1_1, h1_1⟩
  refine ⟨_, rfl, ?_⟩
  refine ⟨fun _ => h1_1, ?_⟩
  have L3 := L2.trans h1_1
  refine G.ef rfl rfl rfl rfl rfl ?_
  refine Ef.call go60 rfl rfl (seight_ok p w1_1) ?_
  rintro _ w1_3 ⟨g1_3, rfl, hg1_3, b1_3, h1_3⟩
  refine ⟨_, rfl, ?_⟩
  refine ⟨fun _ => h1_3, ?_⟩
  have L4 := L3.trans h1_3
  refine G.ef rfl rfl rfl rfl rfl ?_
  refine Ef.buildSliceN [_, _, _] Tryz.underlying91 el64 rfl (by intro v hv; simp at hv; rcases hv with rfl | rfl | rfl <;> rfl) rfl (by decide) (by decide) ?_
  intro g1_5 w1_5 hg1_5 b1_5 h1_5
  refine ⟨fun _ => h1_5, ?_⟩
  have L5 := L4.trans h1_5
  have b1_5 : Blk w1_5 g1_5 64 #[.slice (some ⟨g1_1, 0, none⟩) 8 8, .slice (some ⟨g1_3, 0, none⟩) 8 8, .slice (some ⟨g0_0, 0, none⟩) 32 32] := b1_5
  have f6 := (b1_1.le (h1_3.trans h1_5))
  have f7 := (b1_3.le h1_5)
  have f8 := (b0_0.le (d1.trans (h1_1.trans (h1_3.trans h1_5))))
  refine G.ef rfl rfl rfl rfl rfl ?_
  refine Ef.call go30 rfl rfl (tag_ok _ nSig w1_5 (ps := [be8 rr, be8 p, m]) rfl (b1_5.sl (s := 1) (n := 3) rfl) (.cons (f6.sb (be8_length _)) (.cons (f7.sb (be8_length _)) (.cons (f8.sb hm) (.nil _)))) (by rw [tagLen3, (be8_length _), (be8_length _), hm]; decide)) ?_
  rintro _ w1_6 ⟨rfl, h1_6⟩
  refine ⟨_, rfl, ?_⟩
  refine ⟨fun _ => h1_6, ?_⟩
  have L9 := L5.trans h1_6
  refine G.ef rfl rfl rfl rfl rfl ?_
  refine Ef.call go59 rfl rfl (from_ok (tag nSig [be8 rr, be8 p, m]) (tag_length _ _) w1_6) ?_
  rintro _ w1_7 ⟨rfl, h1_7⟩
  refine ⟨_, rfl, ?_⟩
  refine ⟨fun _ => h1_7, ?_⟩
  have L10 := L9.trans h1_7
  refine G.any rfl rfl (.assign rfl) rfl rfl rfl ?_
  refine G.nil ?_
  refine E.thenN ?_
  refine WC.ret ?_
  refine E.retG1 rfl rfl ?_
  exact ⟨rfl, L10⟩

theorem skey_ok (k : Nat) (w : World) : Calls Tryz.prog 57 #[.int .u64 (((k : Nat) : Int))] w fun r w' => r = .returned (.bool (keyB k)) ∧ Le w w' := by
  refine enter Tryz.func57 rfl rfl ?_
  have L0 := Le.refl w
  refine WC.seq ?_
  refine WC.region ?_
  refine W.any (.assign rfl) rfl rfl rfl ?_
  refine W.nil ?_
  refine E.thenN ?_
  refine WC.seq ?_
  refine WC.region ?_
  refine W.any (.move rfl) rfl rfl rfl ?_
  refine W.ef rfl rfl rfl ?_
  refine Ef.call go79 rfl rfl (fright_ok k w) ?_
  rintro _ w1_1 ⟨rfl, h1_1⟩
  refine ⟨_, rfl, ?_⟩
  have L1 := L0.trans h1_1
  by_cases q1_2 : k < q
  · refine W.any (.dec (.move rfl) (decide_eq_true q1_2)) rfl rfl rfl ?_
    refine W.rdg (Any.rd (.move rfl) _) rfl rfl rfl (rfl) rfl rfl ?_
    refine W.rdg (Any.rd (.neq rfl rfl) _) rfl rfl rfl (rfl) rfl rfl ?_
    refine W.any (.pickT rfl rfl rfl) rfl rfl rfl ?_
    refine W.any (.assign rfl) rfl rfl rfl ?_
    refine W.nil ?_
    refine E.thenN ?_
    refine WC.ret ?_
    refine E.retG1 rfl rfl ?_
    exact ⟨(by first | rfl | (simp [keyB, q1_2]; done) | (simp [keyB, q1_2]; omega) | (simp [keyB, q1_2]; split <;> first | (exfalso; omega) | (simp; done) | (simp; omega))), L1⟩
  · refine W.any (.dec (.move rfl) (decide_eq_false q1_2)) rfl rfl rfl ?_
    refine W.skip rfl rfl rfl (rfl) rfl rfl ?_
    refine W.skip rfl rfl rfl (rfl) rfl rfl ?_
    refine W.any (.pickF rfl rfl rfl) rfl rfl rfl ?_
    refine W.any (.assign rfl) rfl rfl rfl ?_
    refine W.nil ?_
    refine E.thenN ?_
    refine WC.ret ?_
    refine E.retG1 rfl rfl ?_
    exact ⟨(by first | rfl | (simp [keyB, q1_2]; done) | (simp [keyB, q1_2]; omega) | (simp [keyB, q1_2]; split <;> first | (exfalso; omega) | (simp; done) | (simp; omega))), L1⟩

theorem answer_ok (k n : Nat) (m : List (BitVec 8)) (hm : m.length = 32) (t : Nat) (ht : t < 18446744073709551616) (w : World) : Calls Tryz.prog 58 #[.int .u64 (((k : Nat) : Int)), .int .u64 (((n : Nat) : Int)), .agg (m.map u8v).toArray, .int .u64 (((t : Nat) : Int))] w fun r w' => r = .returned (.agg (sigV (ansB k n m t)).toArray) ∧ Le w w' := by
  refine enter Tryz.func58 rfl rfl ?_
  have L0 := Le.refl w
  refine WC.seq ?_
  refine WC.region ?_
  refine W.ef rfl rfl rfl ?_
  refine Ef.boxA rfl ?_
  intro g0_0 w0_0 hg0_0 b0_0 h0_0
  have L1 := L0.trans h0_0
  have b0_0 : Blk w0_0 g0_0 33 (m.map u8v).toArray := b0_0
  refine W.ef rfl rfl rfl ?_
  refine Ef.allocA z37 ?_
  intro g0_1 w0_1 hg0_1 b0_1 h0_1
  have L2 := L1.trans h0_1
  have b0_1 : Blk w0_1 g0_1 37 (sigV noSig).toArray := b0_1
  refine W.nil ?_
  refine E.thenN ?_
  refine WC.seq ?_
  refine WC.region ?_
  refine W.any (.move rfl) rfl rfl rfl ?_
  refine W.ef rfl rfl rfl ?_
  refine Ef.call go23 rfl rfl (base_ok n w0_1) ?_
  rintro _ w1_1 ⟨rfl, h1_1⟩
  refine ⟨_, rfl, ?_⟩
  have L3 := L2.trans h1_1
  refine W.any (.move rfl) rfl rfl rfl ?_
  refine W.ef rfl rfl rfl ?_
  refine Ef.call go80 rfl rfl (padd_ok (base n) t (base_lt' _) (by first | assumption | omega | decide) w1_1) ?_
  rintro _ w1_3 ⟨rfl, h1_3⟩
  refine ⟨_, rfl, ?_⟩
  have L4 := L3.trans h1_3
  refine W.any (.field0 fa37_0 rfl) rfl rfl rfl ?_
  have f5 := (b0_1.le (h1_1.trans h1_3))
  refine W.ef0 rfl rfl ?_
  refine Ef.store sz35 rfl rfl f5 (by first | decide | (simp; done) | simp [sigV_row.len]) (rfl) ?_
  intro w1_5 b1_5 h1_5
  have b1_5 : Blk w1_5 g0_1 37 (sigV (Asp.Sig.mk (addP (base n) t) 0)).toArray := b1_5
  have L6 : Le w w1_5 := L4.then_ h1_5 (fun q hq => by cases hq; exact Nat.le_trans L1.size hg0_1)
  refine W.nil ?_
  refine E.thenN ?_
  refine WC.seq ?_
  refine WC.draw [0, 1, 2, 3, 5, 7, 4, 6, 8, 9, 10, 11] mixed (by kernel_rfl) ?_
  intro w2 d2
  have L7 := L6.trans d2
  refine G.any rfl rfl (.move rfl) rfl rfl rfl ?_
  refine G.any rfl rfl (.field0 fa37_0 rfl) rfl rfl rfl ?_
  have f8 := (b1_5.le d2)
  refine G.rd rfl rfl (.loadB (v := .int .u64 (((addP (base n) t : Nat) : Int))) na35 rfl f8 rfl) rfl rfl rfl ?_
  refine G.any rfl rfl (.move rfl) rfl rfl rfl ?_
  have f9 := (((b0_0.le (h0_1.trans (h1_1.trans h1_3))).ch h1_5 (fun h => (show g0_1 ≠ g0_0 from by have := b0_0.lt; omega) (Option.some.inj h))).le d2)
  refine G.rd rfl rfl (.loadAll ag33 (by simp [hm]) rfl f9) rfl rfl rfl ?_
  refine G.any rfl rfl (.move rfl) rfl rfl rfl ?_
  refine G.ef rfl rfl rfl rfl rfl ?_
  refine Ef.call go23 rfl rfl (base_ok k w2) ?_
  rintro _ w2_4 ⟨rfl, h2_4⟩
  refine ⟨_, rfl, ?_⟩
  refine ⟨fun _ => h2_4, ?_⟩
  have L10 := L7.trans h2_4
  refine G.ef rfl rfl rfl rfl rfl ?_
  refine Ef.call go83 rfl rfl (chal_ok (addP (base n) t) (base k) m hm w2_4) ?_
  rintro _ w2_6 ⟨rfl, h2_6⟩
  refine ⟨_, rfl, ?_⟩
  refine ⟨fun _ => h2_6, ?_⟩
  have L11 := L10.trans h2_6
  refine G.ef rfl rfl rfl rfl rfl ?_
  refine Ef.call go82 rfl rfl (fmul_ok (chalB (addP (base n) t) (base k) m) k w2_6) ?_
  rintro _ w2_8 ⟨rfl, h2_8⟩
  refine ⟨_, rfl, ?_⟩
  refine ⟨fun _ => h2_8, ?_⟩
  have L12 := L11.trans h2_8
  refine G.ef rfl rfl rfl rfl rfl ?_
  refine Ef.call go81 rfl rfl (fadd_ok n (mulS (chalB (addP (base n) t) (base k) m) k) w2_8) ?_
  rintro _ w2_9 ⟨rfl, h2_9⟩
  refine ⟨_, rfl, ?_⟩
  refine ⟨fun _ => h2_9, ?_⟩
  have L13 := L12.trans h2_9
  refine G.any rfl rfl (.field0 fa37_1 rfl) rfl rfl rfl ?_
  have f14 := (f8.le (h2_4.trans (h2_6.trans (h2_8.trans h2_9))))
  refine G.ef0 rfl rfl rfl rfl ?_
  refine Ef.store sz29 rfl rfl f14 (by first | decide | (simp; done) | simp [sigV_row.len]) (rfl) ?_
  intro w2_11 b2_11 h2_11
  refine ⟨fun h => absurd h (ne_true_of_eq_false (by kernel_rfl)), ?_⟩
  have b2_11 : Blk w2_11 g0_1 37 (sigV (Asp.Sig.mk (addP (base n) t) (addS n (mulS (chalB (addP (base n) t) (base k) m) k)))).toArray := b2_11
  have L15 : Le w w2_11 := L13.then_ h2_11 (fun q hq => by cases hq; exact Nat.le_trans L1.size hg0_1)
  refine G.nil ?_
  refine E.thenN ?_
  refine WC.seq ?_
  refine WC.region ?_
  refine W.rd (.loadAll ag37 (by rfl) rfl b2_11) rfl rfl rfl ?_
  refine W.ef0 rfl rfl ?_
  refine Ef.storeAll sz37 (by rfl) rfl rfl b2_11 (by simp only [List.size_toArray, sigV_row.len]) (sigV_row.one (Asp.Sig.mk (addP (base n) t) (addS n (mulS (chalB (addP (base n) t) (base k) m) k)))) ?_
  intro w3_1 b3_1 h3_1
  have b3_1 : Blk w3_1 g0_1 37 (sigV (Asp.Sig.mk (addP (base n) t) (addS n (mulS (chalB (addP (base n) t) (base k) m) k)))).toArray := b3_1
  have L16 : Le w w3_1 := L15.then_ h3_1 (fun q hq => by cases hq; exact Nat.le_trans L1.size hg0_1)
  refine W.nil ?_
  refine E.thenN ?_
  refine WC.ret ?_
  refine E.retG1 rfl (resA rfl b3_1 ag37 (by rfl)) ?_
  exact ⟨by unfold ansB; rfl, L16⟩

theorem ssign_ok (k : Nat) (m : List (BitVec 8)) (hm : m.length = 32) (w : World) : Calls Tryz.prog 33 #[.int .u64 (((k : Nat) : Int)), .agg (m.map u8v).toArray] w fun r w' => r = .returned (.agg (sigV (signB k m)).toArray) ∧ Le w w' := by
  refine enter Tryz.func33 rfl rfl ?_
  have L0 := Le.refl w
  refine WC.seq ?_
  refine WC.region ?_
  refine W.ef rfl rfl rfl ?_
  refine Ef.boxA rfl ?_
  intro g0_0 w0_0 hg0_0 b0_0 h0_0
  have L1 := L0.trans h0_0
  have b0_0 : Blk w0_0 g0_0 33 (m.map u8v).toArray := b0_0
  refine W.ef rfl rfl rfl ?_
  refine Ef.allocA z37 ?_
  intro g0_1 w0_1 hg0_1 b0_1 h0_1
  have L2 := L1.trans h0_1
  have b0_1 : Blk w0_1 g0_1 37 (sigV noSig).toArray := b0_1
  refine W.nil ?_
  refine E.thenN ?_
  refine WC.seq ?_
  refine WC.seq ?_
  refine WC.region ?_
  refine W.any (.move rfl) rfl rfl rfl ?_
  refine W.ef rfl rfl rfl ?_
  refine Ef.call go57 rfl rfl (skey_ok k w0_1) ?_
  rintro _ w1_1 ⟨rfl, h1_1⟩
  refine ⟨_, rfl, ?_⟩
  have L3 := L2.trans h1_1
  refine W.any (.not rfl) rfl rfl rfl ?_
  refine W.nil ?_
  refine E.thenN ?_
  by_cases c0 : (keyB k) = true
  · refine WC.condN rfl (congrArg not (c0)) ?_
    refine WC.skip ?_
    refine E.thenN ?_
    refine WC.seq ?_
    refine WC.draw [0, 1, 3, 7, 2, 4, 5, 6, 8, 9] mixed (by kernel_rfl) ?_
    intro w3 d3
    have L4 := L3.trans d3
    refine G.any rfl rfl (.move rfl) rfl rfl rfl ?_
    refine G.any rfl rfl (.move rfl) rfl rfl rfl ?_
    refine G.any rfl rfl (.cutArr Tryz.underlying33 sz5 rfl) rfl rfl rfl ?_
    have f5 := (b0_0.le (h0_1.trans (h1_1.trans d3)))
    refine G.rd rfl rfl (.loadAll ag33 (by simp [hm]) rfl f5) rfl rfl rfl ?_
    refine G.ef rfl rfl rfl rfl rfl ?_
    refine Ef.call go60 rfl rfl (seight_ok k w3) ?_
    rintro _ w3_2 ⟨g3_2, rfl, hg3_2, b3_2, h3_2⟩
    refine ⟨_, rfl, ?_⟩
    refine ⟨fun _ => h3_2, ?_⟩
    have L6 := L4.trans h3_2
    refine G.ef rfl rfl rfl rfl rfl ?_
    refine Ef.buildSliceN [_, _] Tryz.underlying91 el64 rfl (by intro v hv; simp at hv; rcases hv with rfl | rfl <;> rfl) rfl (by decide) (by decide) ?_
    intro g3_4 w3_4 hg3_4 b3_4 h3_4
    refine ⟨fun _ => h3_4, ?_⟩
    have L7 := L6.trans h3_4
    have b3_4 : Blk w3_4 g3_4 64 #[.slice (some ⟨g3_2, 0, none⟩) 8 8, .slice (some ⟨g0_0, 0, none⟩) 32 32] := b3_4
    have f8 := (b3_2.le h3_4)
    have f9 := (f5.le (h3_2.trans h3_4))
    refine G.ef rfl rfl rfl rfl rfl ?_
    refine Ef.call go30 rfl rfl (tag_ok _ nNonce w3_4 (ps := [be8 k, m]) rfl (b3_4.sl (s := 1) (n := 2) rfl) (.cons (f8.sb (be8_length _)) (.cons (f9.sb hm) (.nil _))) (by rw [tagLen2, (be8_length _), hm]; decide)) ?_
    rintro _ w3_5 ⟨rfl, h3_5⟩
    refine ⟨_, rfl, ?_⟩
    refine ⟨fun _ => h3_5, ?_⟩
    have L10 := L7.trans h3_5
    refine G.ef rfl rfl rfl rfl rfl ?_
    refine Ef.call go59 rfl rfl (from_ok (tag nNonce [be8 k, m]) (tag_length _ _) w3_5) ?_
    rintro _ w3_6 ⟨rfl, h3_6⟩
    refine ⟨_, rfl, ?_⟩
    refine ⟨fun _ => h3_6, ?_⟩
    have L11 := L10.trans h3_6
    refine G.ef rfl rfl rfl rfl rfl ?_
    refine Ef.call go58 rfl rfl (answer_ok k (fromB (tag nNonce [be8 k, m])) m hm 1 (by first | assumption | omega | decide) w3_6) ?_
    rintro _ w3_8 ⟨rfl, h3_8⟩
    refine ⟨_, rfl, ?_⟩
    refine ⟨fun _ => h3_8, ?_⟩
    have L12 := L11.trans h3_8
    have f13 := (b0_1.le (h1_1.trans (d3.trans (h3_2.trans (h3_4.trans (h3_5.trans (h3_6.trans h3_8)))))))
    refine G.ef0 rfl rfl rfl rfl ?_
    refine Ef.storeAll sz37 (by rfl) rfl rfl f13 (by simp only [List.size_toArray, sigV_row.len]) (sigV_row.one (ansB k (fromB (tag nNonce [be8 k, m])) m 1)) ?_
    intro w3_9 b3_9 h3_9
    refine ⟨fun h => absurd h (ne_true_of_eq_false (by kernel_rfl)), ?_⟩
    have b3_9 : Blk w3_9 g0_1 37 (sigV (ansB k (fromB (tag nNonce [be8 k, m])) m 1)).toArray := b3_9
    have L14 : Le w w3_9 := L12.then_ h3_9 (fun q hq => by cases hq; exact Nat.le_trans L1.size hg0_1)
    refine G.nil ?_
    refine E.thenN ?_
    refine WC.ret ?_
    refine E.retG1 rfl (resA rfl b3_9 ag37 (by rfl)) ?_
    exact ⟨(by first | rfl | (simp [signB, nonceB, noSig, c0]; done) | (simp [signB, nonceB, noSig, c0]; omega) | (simp [signB, nonceB, noSig, c0]; split <;> first | (exfalso; omega) | (simp; done) | (simp; omega))), L14⟩
  · refine WC.condY rfl (congrArg not ((Bool.eq_false_iff.2 c0))) ?_
    refine WC.seq ?_
    refine WC.region ?_
    refine W.any (.buildP (sigV (⟨0, 0⟩)) pl37 z37 rfl rfl) rfl rfl rfl ?_
    have f15 := (b0_1.le h1_1)
    refine W.ef0 rfl rfl ?_
    refine Ef.storeAll sz37 (by rfl) rfl rfl f15 (by simp only [List.size_toArray, sigV_row.len]) (sigV_row.one (⟨0, 0⟩)) ?_
    intro w2_1 b2_1 h2_1
    have b2_1 : Blk w2_1 g0_1 37 (sigV (⟨0, 0⟩)).toArray := b2_1
    have L16 : Le w w2_1 := L3.then_ h2_1 (fun q hq => by cases hq; exact Nat.le_trans L1.size hg0_1)
    refine W.nil ?_
    refine E.thenN ?_
    refine WC.ret ?_
    refine E.thenR ?_
    refine E.retG1 rfl (resA rfl b2_1 ag37 (by rfl)) ?_
    exact ⟨(by first | rfl | (simp [signB, nonceB, noSig, c0]; done) | (simp [signB, nonceB, noSig, c0]; omega) | (simp [signB, nonceB, noSig, c0]; split <;> first | (exfalso; omega) | (simp; done) | (simp; omega))), L16⟩

theorem neg_ok (p : Nat) (hp : p < 18446744073709551616) (w : World) : Calls Tryz.prog 105 #[.int .u64 (((p : Nat) : Int))] w fun r w' => r = .returned (.int .u64 ((negP p : Nat) : Int)) ∧ Le w w' := by
  refine enter Tryz.func105 rfl rfl ?_
  have L0 := Le.refl w
  refine WC.seq ?_
  refine WC.region ?_
  refine W.any (.assign rfl) rfl rfl rfl ?_
  refine W.nil ?_
  refine E.thenN ?_
  refine WC.seq ?_
  refine WC.region ?_
  refine W.any (.move rfl) rfl rfl rfl ?_
  refine W.ef rfl rfl rfl ?_
  refine Ef.call go70 rfl rfl (taken_ok p (by first | assumption | omega | decide) w) ?_
  rintro _ w1_1 ⟨rfl, h1_1⟩
  refine ⟨_, rfl, ?_⟩
  have L1 := L0.trans h1_1
  refine W.ef rfl rfl rfl ?_
  refine Ef.call go69 rfl rfl (power_ok (taken p) 2305843009213688668 (taken_lt _) (by decide) w1_1) ?_
  rintro _ w1_2 ⟨rfl, h1_2⟩
  refine ⟨_, rfl, ?_⟩
  have L2 := L1.trans h1_2
  refine W.any (.assign rfl) rfl rfl rfl ?_
  refine W.nil ?_
  refine E.thenN ?_
  refine WC.ret ?_
  refine E.retG1 rfl rfl ?_
  exact ⟨rfl, L2⟩

theorem all_ok {A : Option Addr} {n c : Nat} {xs : List Nat} (w : World) (hV : Vec w pv1 1 A n xs) (hs : ∀ x ∈ xs, x < 18446744073709551616) (hn : n ≤ 1000000) : Calls Tryz.prog 104 #[.slice A n c] w fun r w' => r = .returned (.int .u64 ((allP xs : Nat) : Int)) ∧ Le w w' := by
  have hl := hV.1
  refine enter Tryz.func104 rfl rfl ?_
  have L0 := Le.refl w
  refine WC.seq ?_
  refine WC.region ?_
  refine W.any (.assign rfl) rfl rfl rfl ?_
  refine W.nil ?_
  refine E.thenN ?_
  refine WC.seq ?_
  refine WC.region ?_
  refine W.any (.assign rfl) rfl rfl rfl ?_
  refine W.nil ?_
  refine E.thenN ?_
  refine WC.seq ?_
  refine WC.seq ?_
  refine WC.region ?_
  refine W.any (.move rfl) rfl rfl rfl ?_
  refine W.rd (.len Tryz.underlying22 rfl) rfl rfl rfl ?_
  refine W.any (.move rfl) rfl rfl rfl ?_
  refine W.nil ?_
  refine E.thenN ?_
  refine WC.block ?_
  refine WC.loop (ι := Nat) (fun k => [(3, .int .u64 ((((allP (xs.take k)) : Nat) : Int))), (6, .slice A n c), (7, .int .i64 (((n : Nat) : Int))), (8, .int .i64 (((k : Nat) : Int)))]) (fun k wl0 => (k ≤ n) ∧ Le w wl0 ∧ w.heap.size ≤ wl0.heap.size) (fun k => n - k) 0 ?_ ?_ ?_
  · exact .cons rfl (.cons rfl (.cons rfl (.cons rfl (.nil _))))
  · exact ⟨Nat.zero_le _, L0, Nat.le_refl _⟩
  · rintro k wl0 ⟨hk, Ll0, zl0⟩
    refine WC.seq ?_
    refine WC.region ?_
    refine W.any (.lss rfl rfl) rfl rfl rfl ?_
    refine W.nil ?_
    refine E.thenN ?_
    refine WC.seq ?_
    by_cases c0 : ((k : Nat) : Int) < ((n : Nat) : Int)
    · refine WC.condY rfl (decide_eq_true c0) ?_
      refine WC.skip ?_
      refine E.thenN ?_
      refine WC.seq ?_
      refine WC.block ?_
      refine WC.seq ?_
      refine WC.region ?_
      refine W.any (.idxS (k) Tryz.underlying22 sz35 rfl rfl (hV.isSome pv1_row (by omega)) (rfl) (by omega)) rfl rfl rfl ?_
      refine W.rd (.vone (v := .int .u64 ((((xs.getD k 0) : Nat) : Int))) na35 rfl (hV.le Ll0) pv1_row (getS xs 0 (by first | omega | (simp only [List.length_cons, List.length_nil]; omega))) rfl) rfl rfl rfl ?_
      refine W.any (.assign rfl) rfl rfl rfl ?_
      refine W.nil ?_
      refine E.thenN ?_
      refine WC.region ?_
      refine W.any (.move rfl) rfl rfl rfl ?_
      refine W.any (.move rfl) rfl rfl rfl ?_
      refine W.ef rfl rfl rfl ?_
      refine Ef.call go70 rfl rfl (taken_ok (xs.getD k 0) (getD_lt hs (by decide) _) wl0) ?_
      rintro _ w5_2 ⟨rfl, h5_2⟩
      refine ⟨_, rfl, ?_⟩
      have L1 := Ll0.trans h5_2
      refine W.ef rfl rfl rfl ?_
      refine Ef.call go102 rfl rfl (times_ok (allP (xs.take k)) (taken (xs.getD k 0)) (allP_lt _) (taken_lt _) w5_2) ?_
      rintro _ w5_3 ⟨rfl, h5_3⟩
      refine ⟨_, rfl, ?_⟩
      have L2 := L1.trans h5_3
      refine W.any (.assign rfl) rfl rfl rfl ?_
      refine W.nil ?_
      refine E.blkN ?_
      refine E.thenN ?_
      refine WC.region ?_
      refine W.any (.add rfl rfl (by omega)) rfl rfl rfl ?_
      refine W.any (.move rfl) rfl rfl rfl ?_
      refine W.nil ?_
      refine E.again (k + 1) (.cons' rfl (int_eq (by rw [allP_snoc (by omega)])) (.cons rfl (.cons rfl (.cons rfl (.nil _))))) ?_ ?_
      · exact ⟨by omega, L2, by have := zl0; have := h5_2.size; have := h5_3.size; omega⟩
      · first | omega | (simp only []; omega)
    · refine WC.condN rfl (decide_eq_false c0) ?_
      refine WC.exit ?_
      refine E.thenX ?_
      refine E.thenX ?_
      refine E.blkH ?_
      refine E.thenN ?_
      refine WC.seq ?_
      refine WC.region ?_
      refine W.any (.move rfl) rfl rfl rfl ?_
      refine W.any (.assign rfl) rfl rfl rfl ?_
      refine W.nil ?_
      refine E.thenN ?_
      refine WC.ret ?_
      refine E.retG1 rfl rfl ?_
      exact ⟨by rw [List.take_of_length_le (by omega)], Ll0⟩

theorem checks_ok (p : Nat) (m : List (BitVec 8)) (hm : m.length = 32) (t : Nat) (s : Asp.Sig) (hp : p < 18446744073709551616) (ht : t < 18446744073709551616) (hr : s.r < 18446744073709551616) (w : World) : Calls Tryz.prog 71 #[.int .u64 (((p : Nat) : Int)), .agg (m.map u8v).toArray, .int .u64 (((t : Nat) : Int)), .agg (sigV s).toArray] w fun r w' => r = .returned (.bool (checksB p m t s)) ∧ Le w w' := by
  refine enter Tryz.func71 rfl rfl ?_
  have L0 := Le.refl w
  refine WC.seq ?_
  refine WC.region ?_
  refine W.ef rfl rfl rfl ?_
  refine Ef.boxA rfl ?_
  intro g0_0 w0_0 hg0_0 b0_0 h0_0
  have L1 := L0.trans h0_0
  have b0_0 : Blk w0_0 g0_0 33 (m.map u8v).toArray := b0_0
  refine W.ef rfl rfl rfl ?_
  refine Ef.boxA rfl ?_
  intro g0_1 w0_1 hg0_1 b0_1 h0_1
  have L2 := L1.trans h0_1
  have b0_1 : Blk w0_1 g0_1 37 (sigV s).toArray := b0_1
  refine W.any (.assign rfl) rfl rfl rfl ?_
  refine W.nil ?_
  refine E.thenN ?_
  refine WC.seq ?_
  refine WC.seq ?_
  refine WC.region ?_
  refine W.any (.move rfl) rfl rfl rfl ?_
  refine W.any (.eql rfl rfl) rfl rfl rfl ?_
  by_cases q1_2 : ((p : Nat) : Int) = 1
  · refine W.any (.dec (.move rfl) (decide_eq_true q1_2)) rfl rfl rfl ?_
    refine W.skip rfl rfl rfl (rfl) rfl rfl ?_
    refine W.skip rfl rfl rfl (rfl) rfl rfl ?_
    refine W.skip rfl rfl rfl (rfl) rfl rfl ?_
    refine W.any (.pickT rfl rfl rfl) rfl rfl rfl ?_
    refine W.any (.move rfl) rfl rfl rfl ?_
    refine W.skip rfl rfl rfl (rfl) rfl rfl ?_
    refine W.skip rfl rfl rfl (rfl) rfl rfl ?_
    refine W.skip rfl rfl rfl (rfl) rfl rfl ?_
    refine W.any (.pickT rfl rfl rfl) rfl rfl rfl ?_
    refine W.any (.move rfl) rfl rfl rfl ?_
    refine W.skip rfl rfl rfl (rfl) rfl rfl ?_
    refine W.skip rfl rfl rfl (rfl) rfl rfl ?_
    refine W.skip rfl rfl rfl (rfl) rfl rfl ?_
    refine W.skip rfl rfl rfl (rfl) rfl rfl ?_
    refine W.any (.pickT rfl rfl rfl) rfl rfl rfl ?_
    refine W.any (.move rfl) rfl rfl rfl ?_
    refine W.skip rfl rfl rfl (rfl) rfl rfl ?_
    refine W.skip rfl rfl rfl (rfl) rfl rfl ?_
    refine W.skip rfl rfl rfl (rfl) rfl rfl ?_
    refine W.skip rfl rfl rfl (rfl) rfl rfl ?_
    refine W.any (.pickT rfl rfl rfl) rfl rfl rfl ?_
    refine W.nil ?_
    refine E.thenN ?_
    refine WC.condT rfl ?_
    refine WC.seq ?_
    refine WC.region ?_
    refine W.any (.assign rfl) rfl rfl rfl ?_
    refine W.nil ?_
    refine E.thenN ?_
    refine WC.ret ?_
    refine E.thenR ?_
    refine E.retG1 rfl rfl ?_
    exact ⟨(by first | rfl | (simp [checksB, q1_2]; done) | (simp [checksB, q1_2]; omega) | (simp [checksB, q1_2]; split <;> first | (exfalso; omega) | (simp; done) | (simp; omega)) | (have hp1 : ¬ p = 1 := (by omega); simp [checksB, hp1, Int.natCast_inj, q1_2]; done)), L2⟩
  · refine W.any (.dec (.move rfl) (decide_eq_false q1_2)) rfl rfl rfl ?_
    refine W.rdg (Any.rd (.move rfl) _) rfl rfl rfl (rfl) rfl rfl ?_
    refine W.efg rfl rfl rfl (rfl) rfl rfl ?_
    refine Ef.call go103 rfl rfl (pright_ok p (by first | assumption | omega | decide) w0_1) ?_
    rintro _ w1_4 ⟨rfl, h1_4⟩
    refine ⟨_, rfl, ?_⟩
    have L3 := L2.trans h1_4
    refine W.rdg (Any.rd (.not rfl) _) rfl rfl rfl (rfl) rfl rfl ?_
    refine W.any (.pickF rfl rfl rfl) rfl rfl rfl ?_
    by_cases q1_7 : (right p) = true
    · refine W.any (.dec (.move rfl) (congrArg not (q1_7))) rfl rfl rfl ?_
      refine W.rdg (Any.rd (.move rfl) _) rfl rfl rfl (rfl) rfl rfl ?_
      refine W.efg rfl rfl rfl (rfl) rfl rfl ?_
      refine Ef.call go103 rfl rfl (pright_ok t (by first | assumption | omega | decide) w1_4) ?_
      rintro _ w1_9 ⟨rfl, h1_9⟩
      refine ⟨_, rfl, ?_⟩
      have L4 := L3.trans h1_9
      refine W.rdg (Any.rd (.not rfl) _) rfl rfl rfl (rfl) rfl rfl ?_
      refine W.any (.pickF rfl rfl rfl) rfl rfl rfl ?_
      by_cases q1_12 : (right t) = true
      · refine W.any (.dec (.move rfl) (congrArg not (q1_12))) rfl rfl rfl ?_
        refine W.rdg (Any.rd (.field0 fa37_0 rfl) _) rfl rfl rfl (rfl) rfl rfl ?_
        have f5 := (b0_1.le (h1_4.trans h1_9))
        refine W.rdg (.loadB (v := .int .u64 (((s.r : Nat) : Int))) na35 rfl f5 rfl) rfl rfl rfl (rfl) rfl rfl ?_
        refine W.efg rfl rfl rfl (rfl) rfl rfl ?_
        refine Ef.call go103 rfl rfl (pright_ok s.r (by first | assumption | omega | decide) w1_9) ?_
        rintro _ w1_15 ⟨rfl, h1_15⟩
        refine ⟨_, rfl, ?_⟩
        have L6 := L4.trans h1_15
        refine W.rdg (Any.rd (.not rfl) _) rfl rfl rfl (rfl) rfl rfl ?_
        refine W.any (.pickF rfl rfl rfl) rfl rfl rfl ?_
        by_cases q1_18 : (right s.r) = true
        · refine W.any (.dec (.move rfl) (congrArg not (q1_18))) rfl rfl rfl ?_
          refine W.rdg (Any.rd (.field0 fa37_1 rfl) _) rfl rfl rfl (rfl) rfl rfl ?_
          have f7 := (f5.le h1_15)
          refine W.rdg (.loadB (v := .int .u64 (((s.s : Nat) : Int))) na29 rfl f7 rfl) rfl rfl rfl (rfl) rfl rfl ?_
          refine W.efg rfl rfl rfl (rfl) rfl rfl ?_
          refine Ef.call go79 rfl rfl (fright_ok s.s w1_15) ?_
          rintro _ w1_21 ⟨rfl, h1_21⟩
          refine ⟨_, rfl, ?_⟩
          have L8 := L6.trans h1_21
          refine W.rdg (Any.rd (.not rfl) _) rfl rfl rfl (rfl) rfl rfl ?_
          refine W.any (.pickF rfl rfl rfl) rfl rfl rfl ?_
          refine W.nil ?_
          refine E.thenN ?_
          by_cases c0 : s.s < q
          · refine WC.condN rfl (congrArg not (decide_eq_true c0)) ?_
            refine WC.skip ?_
            refine E.thenN ?_
            refine WC.seq ?_
            refine WC.draw [0, 1, 2, 3, 4, 5, 6, 9, 7, 8, 10, 11, 12, 13] mixed (by kernel_rfl) ?_
            intro w3 d3
            have L9 := L8.trans d3
            refine G.any rfl rfl (.field0 fa37_0 rfl) rfl rfl rfl ?_
            have f10 := (f7.le (h1_21.trans d3))
            refine G.rd rfl rfl (.loadB (v := .int .u64 (((s.r : Nat) : Int))) na35 rfl f10 rfl) rfl rfl rfl ?_
            refine G.any rfl rfl (.move rfl) rfl rfl rfl ?_
            refine G.any rfl rfl (.field0 fa37_0 rfl) rfl rfl rfl ?_
            refine G.rd rfl rfl (.loadB (v := .int .u64 (((s.r : Nat) : Int))) na35 rfl f10 rfl) rfl rfl rfl ?_
            refine G.any rfl rfl (.move rfl) rfl rfl rfl ?_
            have f11 := (b0_0.le (h0_1.trans (h1_4.trans (h1_9.trans (h1_15.trans (h1_21.trans d3))))))
            refine G.rd rfl rfl (.loadAll ag33 (by simp [hm]) rfl f11) rfl rfl rfl ?_
            refine G.any rfl rfl (.move rfl) rfl rfl rfl ?_
            refine G.ef rfl rfl rfl rfl rfl ?_
            refine Ef.call go83 rfl rfl (chal_ok s.r p m hm w3) ?_
            rintro _ w3_7 ⟨rfl, h3_7⟩
            refine ⟨_, rfl, ?_⟩
            refine ⟨fun _ => h3_7, ?_⟩
            have L12 := L9.trans h3_7
            refine G.ef rfl rfl rfl rfl rfl ?_
            refine Ef.call go46 rfl rfl (scale_ok p (chalB s.r p m) (by first | assumption | omega | decide) w3_7) ?_
            rintro _ w3_8 ⟨rfl, h3_8⟩
            refine ⟨_, rfl, ?_⟩
            refine ⟨fun _ => h3_8, ?_⟩
            have L13 := L12.trans h3_8
            refine G.ef rfl rfl rfl rfl rfl ?_
            refine Ef.call go105 rfl rfl (neg_ok t (by first | assumption | omega | decide) w3_8) ?_
            rintro _ w3_10 ⟨rfl, h3_10⟩
            refine ⟨_, rfl, ?_⟩
            refine ⟨fun _ => h3_10, ?_⟩
            have L14 := L13.trans h3_10
            refine G.ef rfl rfl rfl rfl rfl ?_
            refine Ef.buildSliceV (len := 3) [_, _, _] Tryz.underlying22 el35 rfl (by simp [Value.cells]) rfl (by decide) (by decide) ?_
            intro g3_11 w3_11 hg3_11 b3_11 h3_11
            refine ⟨fun _ => h3_11, ?_⟩
            have L15 := L14.trans h3_11
            have b3_11 : Blk w3_11 g3_11 35 (([s.r, scale p (chalB s.r p m), negP t]).map pv1).flatten.toArray := b3_11
            have o3_11 : OVec w3_11 w3_10.heap.size 35 pv1 1 (some ⟨g3_11, 0, none⟩) 3 3 ([s.r, scale p (chalB s.r p m), negP t]) := b3_11.ovec hg3_11 pv1_row rfl rfl (by decide)
            refine G.ef rfl rfl rfl rfl rfl ?_
            refine Ef.call go104 rfl rfl (all_ok w3_11 o3_11.vec (all3 hr (scale_lt' _ _) (negP_lt _)) (by decide)) ?_
            rintro _ w3_12 ⟨rfl, h3_12⟩
            refine ⟨_, rfl, ?_⟩
            refine ⟨fun _ => h3_12, ?_⟩
            have L16 := L15.trans h3_12
            refine G.any rfl rfl (.assign rfl) rfl rfl rfl ?_
            refine G.nil ?_
            refine E.thenN ?_
            refine WC.seq ?_
            refine WC.region ?_
            refine W.any (.field0 fa37_1 rfl) rfl rfl rfl ?_
            have f17 := (f10.le (h3_7.trans (h3_8.trans (h3_10.trans (h3_11.trans h3_12)))))
            refine W.rd (.loadB (v := .int .u64 (((s.s : Nat) : Int))) na29 rfl f17 rfl) rfl rfl rfl ?_
            refine W.ef rfl rfl rfl ?_
            refine Ef.call go23 rfl rfl (base_ok s.s w3_12) ?_
            rintro _ w4_2 ⟨rfl, h4_2⟩
            refine ⟨_, rfl, ?_⟩
            have L18 := L16.trans h4_2
            refine W.any (.move rfl) rfl rfl rfl ?_
            refine W.any (.eql rfl rfl) rfl rfl rfl ?_
            refine W.any (.assign rfl) rfl rfl rfl ?_
            refine W.nil ?_
            refine E.thenN ?_
            refine WC.ret ?_
            refine E.retG1 rfl rfl ?_
            exact ⟨(by first | rfl | (simp [checksB, q1_2, q1_7, q1_12, q1_18, c0]; done) | (simp [checksB, q1_2, q1_7, q1_12, q1_18, c0]; omega) | (simp [checksB, q1_2, q1_7, q1_12, q1_18, c0]; split <;> first | (exfalso; omega) | (simp; done) | (simp; omega)) | (have hp1 : ¬ p = 1 := (by omega); simp [checksB, hp1, Int.natCast_inj, q1_2, q1_7, q1_12, q1_18, c0]; done)), L18⟩
          · refine WC.condY rfl (congrArg not (decide_eq_false c0)) ?_
            refine WC.seq ?_
            refine WC.region ?_
            refine W.any (.assign rfl) rfl rfl rfl ?_
            refine W.nil ?_
            refine E.thenN ?_
            refine WC.ret ?_
            refine E.thenR ?_
            refine E.retG1 rfl rfl ?_
            exact ⟨(by first | rfl | (simp [checksB, q1_2, q1_7, q1_12, q1_18, c0]; done) | (simp [checksB, q1_2, q1_7, q1_12, q1_18, c0]; omega) | (simp [checksB, q1_2, q1_7, q1_12, q1_18, c0]; split <;> first | (exfalso; omega) | (simp; done) | (simp; omega)) | (have hp1 : ¬ p = 1 := (by omega); simp [checksB, hp1, Int.natCast_inj, q1_2, q1_7, q1_12, q1_18, c0]; done)), L8⟩
        · refine W.any (.dec (.move rfl) (congrArg not ((Bool.eq_false_iff.2 q1_18)))) rfl rfl rfl ?_
          refine W.skip rfl rfl rfl (rfl) rfl rfl ?_
          refine W.skip rfl rfl rfl (rfl) rfl rfl ?_
          refine W.skip rfl rfl rfl (rfl) rfl rfl ?_
          refine W.skip rfl rfl rfl (rfl) rfl rfl ?_
          refine W.any (.pickT rfl rfl rfl) rfl rfl rfl ?_
          refine W.nil ?_
          refine E.thenN ?_
          refine WC.condT rfl ?_
          refine WC.seq ?_
          refine WC.region ?_
          refine W.any (.assign rfl) rfl rfl rfl ?_
          refine W.nil ?_
          refine E.thenN ?_
          refine WC.ret ?_
          refine E.thenR ?_
          refine E.retG1 rfl rfl ?_
          exact ⟨(by first | rfl | (simp [checksB, q1_2, q1_7, q1_12, q1_18]; done) | (simp [checksB, q1_2, q1_7, q1_12, q1_18]; omega) | (simp [checksB, q1_2, q1_7, q1_12, q1_18]; split <;> first | (exfalso; omega) | (simp; done) | (simp; omega)) | (have hp1 : ¬ p = 1 := (by omega); simp [checksB, hp1, Int.natCast_inj, q1_2, q1_7, q1_12, q1_18]; done)), L6⟩
      · refine W.any (.dec (.move rfl) (congrArg not ((Bool.eq_false_iff.2 q1_12)))) rfl rfl rfl ?_
        refine W.skip rfl rfl rfl (rfl) rfl rfl ?_
        refine W.skip rfl rfl rfl (rfl) rfl rfl ?_
        refine W.skip rfl rfl rfl (rfl) rfl rfl ?_
        refine W.skip rfl rfl rfl (rfl) rfl rfl ?_
        refine W.any (.pickT rfl rfl rfl) rfl rfl rfl ?_
        refine W.any (.move rfl) rfl rfl rfl ?_
        refine W.skip rfl rfl rfl (rfl) rfl rfl ?_
        refine W.skip rfl rfl rfl (rfl) rfl rfl ?_
        refine W.skip rfl rfl rfl (rfl) rfl rfl ?_
        refine W.skip rfl rfl rfl (rfl) rfl rfl ?_
        refine W.any (.pickT rfl rfl rfl) rfl rfl rfl ?_
        refine W.nil ?_
        refine E.thenN ?_
        refine WC.condT rfl ?_
        refine WC.seq ?_
        refine WC.region ?_
        refine W.any (.assign rfl) rfl rfl rfl ?_
        refine W.nil ?_
        refine E.thenN ?_
        refine WC.ret ?_
        refine E.thenR ?_
        refine E.retG1 rfl rfl ?_
        exact ⟨(by first | rfl | (simp [checksB, q1_2, q1_7, q1_12]; done) | (simp [checksB, q1_2, q1_7, q1_12]; omega) | (simp [checksB, q1_2, q1_7, q1_12]; split <;> first | (exfalso; omega) | (simp; done) | (simp; omega)) | (have hp1 : ¬ p = 1 := (by omega); simp [checksB, hp1, Int.natCast_inj, q1_2, q1_7, q1_12]; done)), L4⟩
    · refine W.any (.dec (.move rfl) (congrArg not ((Bool.eq_false_iff.2 q1_7)))) rfl rfl rfl ?_
      refine W.skip rfl rfl rfl (rfl) rfl rfl ?_
      refine W.skip rfl rfl rfl (rfl) rfl rfl ?_
      refine W.skip rfl rfl rfl (rfl) rfl rfl ?_
      refine W.any (.pickT rfl rfl rfl) rfl rfl rfl ?_
      refine W.any (.move rfl) rfl rfl rfl ?_
      refine W.skip rfl rfl rfl (rfl) rfl rfl ?_
      refine W.skip rfl rfl rfl (rfl) rfl rfl ?_
      refine W.skip rfl rfl rfl (rfl) rfl rfl ?_
      refine W.skip rfl rfl rfl (rfl) rfl rfl ?_
      refine W.any (.pickT rfl rfl rfl) rfl rfl rfl ?_
      refine W.any (.move rfl) rfl rfl rfl ?_
      refine W.skip rfl rfl rfl (rfl) rfl rfl ?_
      refine W.skip rfl rfl rfl (rfl) rfl rfl ?_
      refine W.skip rfl rfl rfl (rfl) rfl rfl ?_
      refine W.skip rfl rfl rfl (rfl) rfl rfl ?_
      refine W.any (.pickT rfl rfl rfl) rfl rfl rfl ?_
      refine W.nil ?_
      refine E.thenN ?_
      refine WC.condT rfl ?_
      refine WC.seq ?_
      refine WC.region ?_
      refine W.any (.assign rfl) rfl rfl rfl ?_
      refine W.nil ?_
      refine E.thenN ?_
      refine WC.ret ?_
      refine E.thenR ?_
      refine E.retG1 rfl rfl ?_
      exact ⟨(by first | rfl | (simp [checksB, q1_2, q1_7]; done) | (simp [checksB, q1_2, q1_7]; omega) | (simp [checksB, q1_2, q1_7]; split <;> first | (exfalso; omega) | (simp; done) | (simp; omega)) | (have hp1 : ¬ p = 1 := (by omega); simp [checksB, hp1, Int.natCast_inj, q1_2, q1_7]; done)), L3⟩

theorem verify_ok (p : Nat) (m : List (BitVec 8)) (hm : m.length = 32) (s : Asp.Sig) (hp : p < 18446744073709551616) (hr : s.r < 18446744073709551616) (w : World) : Calls Tryz.prog 47 #[.int .u64 (((p : Nat) : Int)), .agg (m.map u8v).toArray, .agg (sigV s).toArray] w fun r w' => r = .returned (.bool (verifyB p m s)) ∧ Le w w' := by
  refine enter Tryz.func47 rfl rfl ?_
  have L0 := Le.refl w
  refine WC.seq ?_
  refine WC.region ?_
  refine W.ef rfl rfl rfl ?_
  refine Ef.boxA rfl ?_
  intro g0_0 w0_0 hg0_0 b0_0 h0_0
  have L1 := L0.trans h0_0
  have b0_0 : Blk w0_0 g0_0 33 (m.map u8v).toArray := b0_0
  refine W.ef rfl rfl rfl ?_
  refine Ef.boxA rfl ?_
  intro g0_1 w0_1 hg0_1 b0_1 h0_1
  have L2 := L1.trans h0_1
  have b0_1 : Blk w0_1 g0_1 37 (sigV s).toArray := b0_1
  refine W.any (.assign rfl) rfl rfl rfl ?_
  refine W.nil ?_
  refine E.thenN ?_
  refine WC.seq ?_
  refine WC.region ?_
  refine W.any (.move rfl) rfl rfl rfl ?_
  have f3 := (b0_0.le h0_1)
  refine W.rd (.loadAll ag33 (by simp [hm]) rfl f3) rfl rfl rfl ?_
  refine W.rd (.loadAll ag37 (by rfl) rfl b0_1) rfl rfl rfl ?_
  refine W.ef rfl rfl rfl ?_
  refine Ef.call go71 rfl rfl (checks_ok p m hm 1 s (by first | assumption | omega | decide) (by first | assumption | omega | decide) hr w0_1) ?_
  rintro _ w1_3 ⟨rfl, h1_3⟩
  refine ⟨_, rfl, ?_⟩
  have L4 := L2.trans h1_3
  refine W.any (.assign rfl) rfl rfl rfl ?_
  refine W.nil ?_
  refine E.thenN ?_
  refine WC.ret ?_
  refine E.retG1 rfl rfl ?_
  exact ⟨rfl, L4⟩
end Go.Proofs.YtbpfhenbcgjpcaaGreat

namespace Go.Proofs.YtbpfhenbcgjpcaaGreat
open Go Go.Sx Go.Hsp Go.Num Go.Osp Go.Gsp Go.Asp
set_option maxRecDepth 20000
set_option linter.unusedSimpArgs false
set_option linter.unusedVariables false
theorem len_snoc (xs : List (BitVec 8)) (b : BitVec 8) : xs.length + 1 = (xs ++ [b]).length := by simp
theorem rowN_pos (n : Nat) : 0 < (rowN n).length := by rw [rowN]; split <;> simp
theorem rowN_end {n : Nat} (h : n < 128) : rowN n = [BitVec.ofNat 8 n] := by rw [rowN, dif_pos h]
theorem rowN_more {n : Nat} (h : ¬ n < 128) : rowN n = BitVec.ofNat 8 (n % 128 + 128) :: rowN (n / 128) := by rw [rowN, dif_neg h]
theorem laid_ok {A B : Option Addr} {n m c d : Nat} {xs ys : List (BitVec 8)} (w : World) (hV : Vec w byteV 1 A n xs) (hn : n ≤ 100000) (hU : Vec w byteV 1 B m ys) (hm : m ≤ 100000) (h0 : 0 < m) : Calls Tryz.prog 50 #[.slice A n c, .slice B m d] w fun r w' => ∃ A' c', r = .returned (.slice A' (xs ++ ys).length c') ∧ OVec w' w.heap.size 5 byteV 1 A' (xs ++ ys).length c' (xs ++ ys) ∧ Le w w' := by
  have hl := hV.1
  have hl2 := hU.1
  refine enter Tryz.func50 rfl rfl ?_
  have L0 := Le.refl w
  refine WC.seq ?_
  refine WC.region ?_
  refine W.any (.assign rfl) rfl rfl rfl ?_
  refine W.nil ?_
  refine E.thenN ?_
  refine WC.seq ?_
  refine WC.region ?_
  refine W.any (.move rfl) rfl rfl rfl ?_
  refine W.any (.move rfl) rfl rfl rfl ?_
  refine W.ef rfl rfl rfl ?_
  refine Ef.buildSliceN [_, _] Tryz.underlying91 el64 rfl (by intro v hv; simp at hv; rcases hv with rfl | rfl <;> rfl) rfl (by decide) (by decide) ?_
  intro g1_2 w1_2 hg1_2 b1_2 h1_2
  have L1 := L0.trans h1_2
  have b1_2 : Blk w1_2 g1_2 64 #[.slice A n c, .slice B m d] := b1_2
  refine W.ef rfl rfl rfl ?_
  refine Ef.call go72 rfl rfl (concat_ok w1_2 (b1_2.sl (s := 1) (n := 2) rfl) (.cons (byte_sb (hV.le L1)) (.cons (byte_sb (hU.le L1)) (.nil _))) (by simp; omega) (by simp; omega) (by decide)) ?_
  rintro _ w1_3 ⟨Ag1_3, cg1_3, rfl, ou1_3, h1_3⟩
  refine ⟨_, rfl, ?_⟩
  have L2 := L1.trans h1_3
  have o1_3 := byte_ovec ou1_3
  refine W.any (.assign rfl) rfl rfl rfl ?_
  refine W.nil ?_
  refine E.thenN ?_
  refine WC.ret ?_
  refine E.retG1 rfl rfl ?_
  exact ⟨_, _, by simp only [List.flatten_cons, List.flatten_nil, List.append_nil], (o1_3.mono L1.size).cast (by simp) (by simp), L2⟩

theorem row_ok (n : Nat) (hn : n ≤ 9223372036854775807) (w : World) : Calls Tryz.prog 51 #[.int .i64 (((n : Nat) : Int))] w fun r w' => ∃ A' c', r = .returned (.slice A' (rowN n).length c') ∧ OVec w' w.heap.size 5 byteV 1 A' (rowN n).length c' (rowN n) ∧ Le w w' := by
  have hrl := rowN_length n (by omega)
  refine enter Tryz.func51 rfl rfl ?_
  have L0 := Le.refl w
  refine WC.seq ?_
  refine WC.region ?_
  refine W.any (.assign rfl) rfl rfl rfl ?_
  refine W.nil ?_
  refine E.thenN ?_
  refine WC.seq ?_
  refine WC.region ?_
  refine W.any (.assign rfl) rfl rfl rfl ?_
  refine W.nil ?_
  refine E.thenN ?_
  refine WC.seq ?_
  refine WC.block ?_
  refine WC.loop (ι := Nat × (List (BitVec 8)) × (Option Addr) × Nat) (fun ⟨a, xs, Aa, ca⟩ => [(0, .int .i64 (((a : Nat) : Int))), (3, .slice Aa xs.length ca)]) (fun ⟨a, xs, Aa, ca⟩ wl0 => (a ≤ n) ∧ (xs ++ rowN a = rowN n) ∧ Le w wl0 ∧ w.heap.size ≤ wl0.heap.size ∧ OVec wl0 w.heap.size 5 byteV 1 Aa xs.length ca xs) (fun ⟨a, xs, Aa, ca⟩ => a) (n, [], none, 0) ?_ ?_ ?_
  · exact .cons rfl (.cons rfl (.nil _))
  · exact ⟨Nat.le_refl _, rfl, L0, Nat.le_refl _, (OVec.nil w w.heap.size 5 byteV 1 none)⟩
  · rintro ⟨a, xs, Aa, ca⟩ wl0 ⟨ha, hx, Ll0, zl0, f0_0⟩
    have lb0_1 : w.heap.size ≤ wl0.heap.size := by omega
    have hxl : xs.length + (rowN a).length = (rowN n).length := by rw [← hx, List.length_append]
    have hrp := rowN_pos a
    refine WC.seq ?_
    refine WC.seq ?_
    refine WC.region ?_
    refine W.any (.move rfl) rfl rfl rfl ?_
    refine W.any (.geq rfl rfl) rfl rfl rfl ?_
    refine W.nil ?_
    refine E.thenN ?_
    by_cases c0 : 128 ≤ ((a : Nat) : Int)
    · refine WC.condY rfl (decide_eq_true c0) ?_
      refine WC.skip ?_
      refine E.thenN ?_
      refine WC.seq ?_
      refine WC.block ?_
      refine WC.region ?_
      refine W.any (.move rfl) rfl rfl rfl ?_
      refine W.any (.move rfl) rfl rfl rfl ?_
      refine W.any (.rem rfl rfl (by omega)) rfl rfl rfl ?_
      refine W.any (.add rfl rfl (by omega)) rfl rfl rfl ?_
      refine W.rd (.toU8 ((a % 128) + 128) (isS Tryz.underlying3) Tryz.underlying5 rfl (by omega)) rfl rfl rfl ?_
      refine W.ef rfl rfl rfl ?_
      refine Ef.buildSliceV (len := 1) [_] Tryz.underlying64 el5 rfl (by simp [Value.cells, u8v]) rfl (by decide) (by decide) ?_
      intro g4_5 w4_5 hg4_5 b4_5 h4_5
      have L1 := Ll0.trans h4_5
      have b4_5 : Blk w4_5 g4_5 5 (([BitVec.ofNat 8 ((a % 128) + 128)]).map byteV).flatten.toArray := b4_5
      have o4_5 : OVec w4_5 wl0.heap.size 5 byteV 1 (some ⟨g4_5, 0, none⟩) 1 1 ([BitVec.ofNat 8 ((a % 128) + 128)]) := b4_5.ovec hg4_5 byteV_row rfl rfl (by decide)
      have f2 := (f0_0.le h4_5)
      refine W.ef rfl rfl rfl ?_
      refine Ef.vpush (a := (BitVec.ofNat 8 ((a % 128) + 128))) Tryz.underlying64 el5 Tryz.underlying64 byteV_row rfl f2 rfl b4_5 (by omega) (by unfold maxLen; omega) (by have := lb0_1; have := h4_5.size; omega) ?_
      intro A4_6 c4_6 w4_6 o4_6 h4_6 at4_6
      have L3 : Le w w4_6 := L1.then_ h4_6 (fun q hq => Nat.le_trans L0.size (f2.row hq).1)
      refine W.any (.assign rfl) rfl rfl rfl ?_
      refine W.nil ?_
      refine E.blkN ?_
      refine E.thenN ?_
      refine WC.region ?_
      refine W.any (.move rfl) rfl rfl rfl ?_
      refine W.any (.quo rfl rfl (by omega)) rfl rfl rfl ?_
      refine W.any (.assign rfl) rfl rfl rfl ?_
      refine W.nil ?_
      refine E.again (a / 128, (xs ++ [BitVec.ofNat 8 (a % 128 + 128)]), A4_6, c4_6) (.cons' rfl (int_eq (by omega)) (.cons' rfl (slice_eq (len_snoc xs (BitVec.ofNat 8 (a % 128 + 128)))) (.nil _))) ?_ ?_
      · exact ⟨by omega, by rw [← hx, rowN_more (n := a) (by omega)]; simp, L3, by have := zl0; have := h4_5.size; have := h4_6.size; omega, (o4_6.cast (len_snoc xs (BitVec.ofNat 8 (a % 128 + 128))) rfl)⟩
      · first | omega | (simp only []; omega)
    · refine WC.condN rfl (decide_eq_false c0) ?_
      refine WC.exit ?_
      refine E.thenX ?_
      refine E.thenX ?_
      refine E.blkH ?_
      refine E.thenN ?_
      refine WC.seq ?_
      refine WC.region ?_
      refine W.any (.move rfl) rfl rfl rfl ?_
      refine W.any (.move rfl) rfl rfl rfl ?_
      refine W.rd (.toU8 a (isS Tryz.underlying3) Tryz.underlying5 rfl rfl) rfl rfl rfl ?_
      refine W.ef rfl rfl rfl ?_
      refine Ef.buildSliceV (len := 1) [_] Tryz.underlying64 el5 rfl (by simp [Value.cells, u8v]) rfl (by decide) (by decide) ?_
      intro g5_3 w5_3 hg5_3 b5_3 h5_3
      have L4 := Ll0.trans h5_3
      have b5_3 : Blk w5_3 g5_3 5 (([BitVec.ofNat 8 a]).map byteV).flatten.toArray := b5_3
      have o5_3 : OVec w5_3 wl0.heap.size 5 byteV 1 (some ⟨g5_3, 0, none⟩) 1 1 ([BitVec.ofNat 8 a]) := b5_3.ovec hg5_3 byteV_row rfl rfl (by decide)
      have f5 := (f0_0.le h5_3)
      refine W.ef rfl rfl rfl ?_
      refine Ef.vpush (a := (BitVec.ofNat 8 a)) Tryz.underlying64 el5 Tryz.underlying64 byteV_row rfl f5 rfl b5_3 (by omega) (by unfold maxLen; omega) (by have := lb0_1; have := h5_3.size; omega) ?_
      intro A5_4 c5_4 w5_4 o5_4 h5_4 at5_4
      have L6 : Le w w5_4 := L4.then_ h5_4 (fun q hq => Nat.le_trans L0.size (f5.row hq).1)
      refine W.any (.assign rfl) rfl rfl rfl ?_
      refine W.nil ?_
      refine E.thenN ?_
      refine WC.ret ?_
      refine E.retG1 rfl rfl ?_
      have hend : xs ++ [BitVec.ofNat 8 a] = rowN n := by rw [← hx, rowN_end (n := a) (by omega)]
      exact ⟨_, _, by rw [← hend, List.length_append]; rfl, (o5_4.mono L0.size).cast (by rw [← hend, List.length_append]; rfl) hend, L6⟩

theorem put_ok (i : Nat) (hi : i ≤ 9223372036854775807) {A : Option Addr} {n c : Nat} {xs : List (BitVec 8)} (w : World) (hV : Vec w byteV 1 A n xs) (hn : n ≤ 100000) : Calls Tryz.prog 29 #[.slice A n c, .int .i64 (((i : Nat) : Int))] w fun r w' => ∃ A' c', r = .returned (.slice A' (xs ++ rowN i).length c') ∧ OVec w' w.heap.size 5 byteV 1 A' (xs ++ rowN i).length c' (xs ++ rowN i) ∧ Le w w' := by
  have hl := hV.1
  refine enter Tryz.func29 rfl rfl ?_
  have L0 := Le.refl w
  refine WC.seq ?_
  refine WC.region ?_
  refine W.any (.assign rfl) rfl rfl rfl ?_
  refine W.nil ?_
  refine E.thenN ?_
  refine WC.seq ?_
  refine WC.seq ?_
  refine WC.region ?_
  refine W.any (.move rfl) rfl rfl rfl ?_
  refine W.any (.lss rfl rfl) rfl rfl rfl ?_
  refine W.nil ?_
  refine E.thenN ?_
  refine WC.condN rfl (decide_eq_false (by omega)) ?_
  refine WC.skip ?_
  refine E.thenN ?_
  refine WC.seq ?_
  refine WC.region ?_
  refine W.any (.move rfl) rfl rfl rfl ?_
  refine W.any (.move rfl) rfl rfl rfl ?_
  refine W.ef rfl rfl rfl ?_
  refine Ef.call go51 rfl rfl (row_ok i (by omega) w) ?_
  rintro _ w3_2 ⟨Ag3_2, cg3_2, rfl, o3_2, h3_2⟩
  refine ⟨_, rfl, ?_⟩
  have L1 := L0.trans h3_2
  have hrl3_2 := rowN_length i (by omega)
  have hrp3_2 := rowN_pos i
  refine W.ef rfl rfl rfl ?_
  refine Ef.call go50 rfl rfl (laid_ok w3_2 (hV.le L1) (by omega) o3_2.vec (by omega) (by omega)) ?_
  rintro _ w3_3 ⟨Ag3_3, cg3_3, rfl, o3_3, h3_3⟩
  refine ⟨_, rfl, ?_⟩
  have L2 := L1.trans h3_3
  refine W.any (.assign rfl) rfl rfl rfl ?_
  refine W.nil ?_
  refine E.thenN ?_
  refine WC.ret ?_
  refine E.retG1 rfl rfl ?_
  exact ⟨_, _, rfl, (o3_3.mono L1.size), L2⟩
end Go.Proofs.YtbpfhenbcgjpcaaGreat

