/- LedgerTells: for every input the law answers true and leaves its arguments as they were. -/
import Derived.Test.YtmgfgbplbemklaaGreatLedgerTellsI
import Derived.OrdersHeld
import Derived.WalkKit
import Derived.Deep.AppendSrc
import Derived.Deep.MidRow
import Derived.Laws.OwnMore
import Derived.WalkSpells
import Derived.Lib.ConvBytes
import Derived.Lib.AppendZerosOnto
import Derived.Laws.StructEq
import Derived.Maps.RangeRun
import Derived.Laws.Pointers
import Derived.Test.YtmgfgbplbemklaaGreatProg
import Derived.KernelRfl
import Derived.Lib.Mul64
namespace Go.Proofs.YtmgfgbplbemklaaGreat
open Go Go.Sx
set_option maxRecDepth 20000
theorem mul64_ok (x y : Nat) (hx : x < 18446744073709551616) (hy : y < 18446744073709551616) (w : World) : Calls Tryz.prog 85 #[.int .u64 ((x : Nat) : Int), .int .u64 ((y : Nat) : Int)] w fun e w' => e = .returned (.tuple #[.int .u64 ((x * y / 18446744073709551616 : Nat) : Int), .int .u64 ((x * y % 18446744073709551616 : Nat) : Int)]) ∧ Le w w' := by
 obtain ⟨h1, h2, h3, h4⟩ := Go.Lib.mul64_hi x y hx hy
 have h5 : x * y / 18446744073709551616 < 18446744073709551616 := by
  rw [Nat.div_lt_iff_lt_mul (by decide)]
  exact Nat.mul_lt_mul'' hx hy
 have ha := Go.Lib.half_mul_le (a := x / 4294967296) (b := y / 4294967296) (by omega) (by omega)
 have hb := Go.Lib.half_mul_le (a := x / 4294967296) (b := y % 4294967296) (by omega) (by omega)
 have hc := Go.Lib.half_mul_le (a := x % 4294967296) (b := y / 4294967296) (by omega) (by omega)
 refine enter Tryz.func85 rfl rfl ?_
 have L0 := Le.refl w
 refine WC.seq (WC.region ?_)
 refine W.any (.assign rfl) rfl rfl rfl ?_
 refine W.any (.assign rfl) rfl rfl rfl ?_
 refine W.nil (E.thenN (WC.seq (WC.region ?_)))
 refine W.any (.move rfl) rfl rfl rfl ?_
 refine W.any (.andE (x) (4294967295) (x % 4294967296) rfl rfl rfl rfl (by omega) (by omega) (mask32 _)) rfl rfl rfl ?_
 refine W.any (.assign rfl) rfl rfl rfl ?_
 refine W.nil (E.thenN (WC.seq (WC.region ?_)))
 refine W.any (.move rfl) rfl rfl rfl ?_
 refine W.any (.shrE (x) (32) (x / 4294967296) rfl rfl rfl rfl (by decide) (rfl)) rfl rfl rfl ?_
 refine W.any (.assign rfl) rfl rfl rfl ?_
 refine W.nil (E.thenN (WC.seq (WC.region ?_)))
 refine W.any (.move rfl) rfl rfl rfl ?_
 refine W.any (.andE (y) (4294967295) (y % 4294967296) rfl rfl rfl rfl (by omega) (by omega) (mask32 _)) rfl rfl rfl ?_
 refine W.any (.assign rfl) rfl rfl rfl ?_
 refine W.nil (E.thenN (WC.seq (WC.region ?_)))
 refine W.any (.move rfl) rfl rfl rfl ?_
 refine W.any (.shrE (y) (32) (y / 4294967296) rfl rfl rfl rfl (by decide) (rfl)) rfl rfl rfl ?_
 refine W.any (.assign rfl) rfl rfl rfl ?_
 refine W.nil (E.thenN (WC.seq (WC.region ?_)))
 refine W.any (.move rfl) rfl rfl rfl ?_
 refine W.any (.move rfl) rfl rfl rfl ?_
 refine W.any (.mulN (x % 4294967296) (y % 4294967296) ((x % 4294967296) * (y % 4294967296)) rfl rfl rfl rfl (Nat.mod_eq_of_lt h1)) rfl rfl rfl ?_
 refine W.any (.assign rfl) rfl rfl rfl ?_
 refine W.nil (E.thenN (WC.seq (WC.region ?_)))
 refine W.any (.move rfl) rfl rfl rfl ?_
 refine W.any (.move rfl) rfl rfl rfl ?_
 refine W.any (.mulN (x / 4294967296) (y % 4294967296) ((x / 4294967296) * (y % 4294967296)) rfl rfl rfl rfl (Nat.mod_eq_of_lt (by omega))) rfl rfl rfl ?_
 refine W.any (.move rfl) rfl rfl rfl ?_
 refine W.any (.shrE ((x % 4294967296) * (y % 4294967296)) (32) ((x % 4294967296) * (y % 4294967296) / 4294967296) rfl rfl rfl rfl (by decide) (rfl)) rfl rfl rfl ?_
 refine W.any (.addN ((x / 4294967296) * (y % 4294967296)) ((x % 4294967296) * (y % 4294967296) / 4294967296) ((x / 4294967296) * (y % 4294967296) + (x % 4294967296) * (y % 4294967296) / 4294967296) rfl rfl rfl rfl (Nat.mod_eq_of_lt h2)) rfl rfl rfl ?_
 refine W.any (.assign rfl) rfl rfl rfl ?_
 refine W.nil (E.thenN (WC.seq (WC.region ?_)))
 refine W.any (.move rfl) rfl rfl rfl ?_
 refine W.any (.andE ((x / 4294967296) * (y % 4294967296) + (x % 4294967296) * (y % 4294967296) / 4294967296) (4294967295) (((x / 4294967296) * (y % 4294967296) + (x % 4294967296) * (y % 4294967296) / 4294967296) % 4294967296) rfl rfl rfl rfl (by omega) (by omega) (mask32 _)) rfl rfl rfl ?_
 refine W.any (.assign rfl) rfl rfl rfl ?_
 refine W.nil (E.thenN (WC.seq (WC.region ?_)))
 refine W.any (.move rfl) rfl rfl rfl ?_
 refine W.any (.shrE ((x / 4294967296) * (y % 4294967296) + (x % 4294967296) * (y % 4294967296) / 4294967296) (32) (((x / 4294967296) * (y % 4294967296) + (x % 4294967296) * (y % 4294967296) / 4294967296) / 4294967296) rfl rfl rfl rfl (by decide) (rfl)) rfl rfl rfl ?_
 refine W.any (.assign rfl) rfl rfl rfl ?_
 refine W.nil (E.thenN (WC.seq (WC.region ?_)))
 refine W.any (.move rfl) rfl rfl rfl ?_
 refine W.any (.move rfl) rfl rfl rfl ?_
 refine W.any (.move rfl) rfl rfl rfl ?_
 refine W.any (.mulN (x % 4294967296) (y / 4294967296) ((x % 4294967296) * (y / 4294967296)) rfl rfl rfl rfl (Nat.mod_eq_of_lt (by omega))) rfl rfl rfl ?_
 refine W.any (.addN (((x / 4294967296) * (y % 4294967296) + (x % 4294967296) * (y % 4294967296) / 4294967296) % 4294967296) ((x % 4294967296) * (y / 4294967296)) (((x / 4294967296) * (y % 4294967296) + (x % 4294967296) * (y % 4294967296) / 4294967296) % 4294967296 + (x % 4294967296) * (y / 4294967296)) rfl rfl rfl rfl (Nat.mod_eq_of_lt h3)) rfl rfl rfl ?_
 refine W.any (.assign rfl) rfl rfl rfl ?_
 refine W.nil (E.thenN (WC.seq (WC.region ?_)))
 refine W.any (.move rfl) rfl rfl rfl ?_
 refine W.any (.move rfl) rfl rfl rfl ?_
 refine W.any (.mulN (x / 4294967296) (y / 4294967296) ((x / 4294967296) * (y / 4294967296)) rfl rfl rfl rfl (Nat.mod_eq_of_lt (by omega))) rfl rfl rfl ?_
 refine W.any (.move rfl) rfl rfl rfl ?_
 refine W.any (.addN ((x / 4294967296) * (y / 4294967296)) (((x / 4294967296) * (y % 4294967296) + (x % 4294967296) * (y % 4294967296) / 4294967296) / 4294967296) ((x / 4294967296) * (y / 4294967296) + ((x / 4294967296) * (y % 4294967296) + (x % 4294967296) * (y % 4294967296) / 4294967296) / 4294967296) rfl rfl rfl rfl (Nat.mod_eq_of_lt (by omega))) rfl rfl rfl ?_
 refine W.any (.move rfl) rfl rfl rfl ?_
 refine W.any (.shrE (((x / 4294967296) * (y % 4294967296) + (x % 4294967296) * (y % 4294967296) / 4294967296) % 4294967296 + (x % 4294967296) * (y / 4294967296)) (32) ((((x / 4294967296) * (y % 4294967296) + (x % 4294967296) * (y % 4294967296) / 4294967296) % 4294967296 + (x % 4294967296) * (y / 4294967296)) / 4294967296) rfl rfl rfl rfl (by decide) (rfl)) rfl rfl rfl ?_
 refine W.any (.addN ((x / 4294967296) * (y / 4294967296) + ((x / 4294967296) * (y % 4294967296) + (x % 4294967296) * (y % 4294967296) / 4294967296) / 4294967296) ((((x / 4294967296) * (y % 4294967296) + (x % 4294967296) * (y % 4294967296) / 4294967296) % 4294967296 + (x % 4294967296) * (y / 4294967296)) / 4294967296) (x * y / 18446744073709551616) rfl rfl rfl rfl ((Nat.mod_eq_of_lt (by rw [h4]; exact h5)).trans h4)) rfl rfl rfl ?_
 refine W.any (.assign rfl) rfl rfl rfl ?_
 refine W.nil (E.thenN (WC.seq (WC.region ?_)))
 refine W.any (.move rfl) rfl rfl rfl ?_
 refine W.any (.move rfl) rfl rfl rfl ?_
 refine W.any (.mulN (x) (y) (x * y % 18446744073709551616) rfl rfl rfl rfl (rfl)) rfl rfl rfl ?_
 refine W.any (.assign rfl) rfl rfl rfl ?_
 refine W.nil (E.thenN (WC.ret ?_))
 refine E.ret2 rfl rfl rfl ?_
 exact ⟨rfl, L0⟩

def tab8 : ByteArray := ⟨[0, 1, 2, 2, 3, 3, 3, 3, 4, 4, 4, 4, 4, 4, 4, 4, 5, 5, 5, 5, 5, 5, 5, 5, 5, 5, 5, 5, 5, 5, 5, 5, 6, 6, 6, 6, 6, 6, 6, 6, 6, 6, 6, 6, 6, 6, 6, 6, 6, 6, 6, 6, 6, 6, 6, 6, 6, 6, 6, 6, 6, 6, 6, 6, 7, 7, 7, 7, 7, 7, 7, 7, 7, 7, 7, 7, 7, 7, 7, 7, 7, 7, 7, 7, 7, 7, 7, 7, 7, 7, 7, 7, 7, 7, 7, 7, 7, 7, 7, 7, 7, 7, 7, 7, 7, 7, 7, 7, 7, 7, 7, 7, 7, 7, 7, 7, 7, 7, 7, 7, 7, 7, 7, 7, 7, 7, 7, 7, 8, 8, 8, 8, 8, 8, 8, 8, 8, 8, 8, 8, 8, 8, 8, 8, 8, 8, 8, 8, 8, 8, 8, 8, 8, 8, 8, 8, 8, 8, 8, 8, 8, 8, 8, 8, 8, 8, 8, 8, 8, 8, 8, 8, 8, 8, 8, 8, 8, 8, 8, 8, 8, 8, 8, 8, 8, 8, 8, 8, 8, 8, 8, 8, 8, 8, 8, 8, 8, 8, 8, 8, 8, 8, 8, 8, 8, 8, 8, 8, 8, 8, 8, 8, 8, 8, 8, 8, 8, 8, 8, 8, 8, 8, 8, 8, 8, 8, 8, 8, 8, 8, 8, 8, 8, 8, 8, 8, 8, 8, 8, 8, 8, 8, 8, 8, 8, 8, 8, 8, 8, 8, 8, 8, 8, 8, 8, 8].toArray⟩

theorem len8 : ∀ m, 16 ≤ m → m < 64 → tab8[m]? = some (if m < 32 then 5 else 6) := by
  have h : ∀ m : Fin 64, 16 ≤ m.val → tab8[m.val]? = some (if m.val < 32 then 5 else 6) := by decide +kernel
  exact fun m h1 h2 => h ⟨m, h2⟩ h1

theorem len64_ok (y : Nat) (h1 : 1152921504606846976 ≤ y) (h2 : y < 4611686018427387904) (w : World) : Calls Tryz.prog 97 #[.int .u64 ((y : Nat) : Int)] w fun e w' => e = .returned (.int .i64 (if y < 2305843009213693952 then 61 else 62)) ∧ Le w w' := by
 refine enter Tryz.func97 rfl rfl ?_
 have L0 := Le.refl w
 refine WC.seq (WC.region ?_)
 refine W.any (.assign rfl) rfl rfl rfl ?_
 refine W.nil (E.thenN (WC.seq (WC.seq (WC.region ?_))))
 refine W.any (.move rfl) rfl rfl rfl ?_
 refine W.any (.geq rfl rfl) rfl rfl rfl ?_
 refine W.nil (E.thenN ?_)
 refine WC.condB rfl (fun _ => ?_) (fun h => absurd h (by simp; omega))
 refine WC.seq (WC.region ?_)
 refine W.any (.move rfl) rfl rfl rfl ?_
 refine W.any (.shrE (y) (32) (y / 4294967296) rfl rfl rfl rfl (by decide) (rfl)) rfl rfl rfl ?_
 refine W.any (.assign rfl) rfl rfl rfl ?_
 refine W.nil (E.thenN (WC.region ?_))
 refine W.any (.assign rfl) rfl rfl rfl ?_
 refine W.nil (E.thenN (WC.seq (WC.seq (WC.region ?_))))
 refine W.any (.move rfl) rfl rfl rfl ?_
 refine W.any (.geq rfl rfl) rfl rfl rfl ?_
 refine W.nil (E.thenN ?_)
 refine WC.condB rfl (fun _ => ?_) (fun h => absurd h (by simp; omega))
 refine WC.seq (WC.region ?_)
 refine W.any (.move rfl) rfl rfl rfl ?_
 refine W.any (.shrE (y / 4294967296) (16) (y / 281474976710656) rfl rfl rfl rfl (by decide) (by omega)) rfl rfl rfl ?_
 refine W.any (.assign rfl) rfl rfl rfl ?_
 refine W.nil (E.thenN (WC.region ?_))
 refine W.any (.move rfl) rfl rfl rfl ?_
 refine W.any (.add rfl rfl (by omega)) rfl rfl rfl ?_
 refine W.any (.assign rfl) rfl rfl rfl ?_
 refine W.nil (E.thenN (WC.seq (WC.seq (WC.region ?_))))
 refine W.any (.move rfl) rfl rfl rfl ?_
 refine W.any (.geq rfl rfl) rfl rfl rfl ?_
 refine W.nil (E.thenN ?_)
 refine WC.condB rfl (fun _ => ?_) (fun h => absurd h (by simp; omega))
 refine WC.seq (WC.region ?_)
 refine W.any (.move rfl) rfl rfl rfl ?_
 refine W.any (.shrE (y / 281474976710656) (8) (y / 72057594037927936) rfl rfl rfl rfl (by decide) (by omega)) rfl rfl rfl ?_
 refine W.any (.assign rfl) rfl rfl rfl ?_
 refine W.nil (E.thenN (WC.region ?_))
 refine W.any (.move rfl) rfl rfl rfl ?_
 refine W.any (.add rfl rfl (by omega)) rfl rfl rfl ?_
 refine W.any (.assign rfl) rfl rfl rfl ?_
 refine W.nil (E.thenN (WC.seq (WC.region ?_)))
 refine W.any (.move rfl) rfl rfl rfl ?_
 refine W.any (.move rfl) rfl rfl rfl ?_
 refine W.rd (.toU8 (y / 72057594037927936) (isS Tryz.underlying32) Tryz.underlying5 rfl rfl) rfl rfl rfl ?_
 refine W.any (.idxStr (y / 72057594037927936) (if y / 72057594037927936 < 32 then 5 else 6) Tryz.underlying9 rfl rfl (by rw [BitVec.toNat_ofNat, Nat.mod_eq_of_lt (by omega)]) (len8 (y / 72057594037927936) (by omega) (by omega))) rfl rfl rfl ?_
 refine W.rd (.idI (isS Tryz.underlying5) Tryz.underlying3 rfl (IntWalk.i64_in _ (by split <;> decide))) rfl rfl rfl ?_
 refine W.any (.add rfl rfl (by split <;> decide)) rfl rfl rfl ?_
 refine W.any (.assign rfl) rfl rfl rfl ?_
 refine W.nil (E.thenN (WC.ret ?_))
 refine E.ret1 rfl rfl ?_
 exact ⟨by congr 2; split <;> split <;> simp_all <;> omega, L0⟩

theorem lz64_ok (y : Nat) (h1 : 1152921504606846976 ≤ y) (h2 : y < 4611686018427387904) (w : World) : Calls Tryz.prog 105 #[.int .u64 ((y : Nat) : Int)] w fun e w' => e = .returned (.int .i64 (if y < 2305843009213693952 then 3 else 2)) ∧ Le w w' := by
 refine enter Tryz.func105 rfl rfl ?_
 have L0 := Le.refl w
 refine WC.seq (WC.region ?_)
 refine W.any (.assign rfl) rfl rfl rfl ?_
 refine W.nil (E.thenN (WC.seq (WC.region ?_)))
 refine W.any (.move rfl) rfl rfl rfl ?_
 refine W.ef rfl rfl rfl ?_
 refine Ef.call go97 rfl rfl (len64_ok y h1 h2 w) ?_
 rintro _ w1_1 ⟨rfl, h1_1⟩
 refine ⟨_, rfl, ?_⟩
 have L1_1 := L0.trans h1_1
 refine W.any (.sub rfl rfl (by split <;> omega)) rfl rfl rfl ?_
 refine W.any (.assign rfl) rfl rfl rfl ?_
 refine W.nil (E.thenN (WC.ret ?_))
 refine E.ret1 rfl rfl ?_
 exact ⟨by congr 2; split <;> rfl, L1_1⟩

theorem div64_ok2 (h l y : Nat) (h1 : 2305843009213693952 ≤ y) (h2 : y < 4611686018427387904) (hh : h < y) (hl : l < 18446744073709551616) (w : World) : Calls Tryz.prog 98 #[.int .u64 ((h : Nat) : Int), .int .u64 ((l : Nat) : Int), .int .u64 ((y : Nat) : Int)] w fun e w' => ∃ qq : Int, e = .returned (.tuple #[.int .u64 qq, .int .u64 (((h * 18446744073709551616 + l) % y : Nat) : Int)]) ∧ Le w w' := by
 obtain ⟨Y, hYd⟩ : ∃ Y, Y = y * 4 := ⟨_, rfl⟩
 obtain ⟨a, ha⟩ : ∃ a, a = Y / 4294967296 := ⟨_, rfl⟩
 obtain ⟨b, hb0⟩ : ∃ b, b = Y % 4294967296 := ⟨_, rfl⟩
 obtain ⟨U, hUd⟩ : ∃ U, U = h * 4 + l / 4611686018427387904 := ⟨_, rfl⟩
 obtain ⟨v, hv⟩ : ∃ v, v = l * 4 % 18446744073709551616 := ⟨_, rfl⟩
 obtain ⟨e1, he1⟩ : ∃ e1, e1 = v / 4294967296 := ⟨_, rfl⟩
 obtain ⟨e0, he0⟩ : ∃ e0, e0 = v % 4294967296 := ⟨_, rfl⟩
 have hY : Y = a * 4294967296 + b := by omega
 have hYlo : 9223372036854775808 ≤ Y := by omega
 have hYhi : Y < 18446744073709551616 := by omega
 have ha1 : 2147483648 ≤ a := by omega
 have ha2 : a < 4294967296 := by omega
 have hb1 : b < 4294967296 := by omega
 have hv2 : v < 18446744073709551616 := by omega
 have he12 : e1 < 4294967296 := by omega
 have he02 : e0 < 4294967296 := by omega
 have hU : U < Y := by omega
 obtain ⟨R, hR⟩ : ∃ R, R = (U * 4294967296 + e1) % Y := ⟨_, rfl⟩
 obtain ⟨Q1, hQ1⟩ : ∃ Q1, Q1 = (U * 4294967296 + e1) / Y := ⟨_, rfl⟩
 obtain ⟨Q2, hQ2⟩ : ∃ Q2, Q2 = (R * 4294967296 + e0) / Y := ⟨_, rfl⟩
 have hRY : R < Y := by rw [hR]; exact Nat.mod_lt _ (by omega)
 have hfin : (R * 4294967296 + e0) % Y / 2 ^ 2 = (h * 18446744073709551616 + l) % y := div_fin2 h l y Y U v e1 e0 R hYd hUd hv he1 he0 hR (by omega)
 have hlz : ∀ w, Calls Tryz.prog 105 #[.int .u64 ((y : Nat) : Int)] w (fun e w' => e = .returned (.int .i64 2) ∧ Le w w') := fun w => by
  have := lz64_ok y (by omega) (by omega) w
  rw [if_neg (by omega)] at this
  exact this
 refine enter Tryz.func98 rfl rfl ?_
 have L0 := Le.refl w
 refine WC.seq (WC.region ?_)
 refine W.any (.assign rfl) rfl rfl rfl ?_
 refine W.any (.assign rfl) rfl rfl rfl ?_
 refine W.nil (E.thenN (WC.seq (WC.seq (WC.region ?_))))
 refine W.any (.move rfl) rfl rfl rfl ?_
 refine W.any (.eql rfl rfl) rfl rfl rfl ?_
 refine W.nil (E.thenN ?_)
 refine WC.condB rfl (fun h => absurd h (by simp; omega)) (fun _ => ?_)
 refine WC.skip (E.thenN (WC.seq (WC.seq (WC.region ?_))))
 refine W.any (.move rfl) rfl rfl rfl ?_
 refine W.any (.move rfl) rfl rfl rfl ?_
 refine W.any (.leq rfl rfl) rfl rfl rfl ?_
 refine W.nil (E.thenN ?_)
 refine WC.condB rfl (fun h => absurd h (by simp; omega)) (fun _ => ?_)
 refine WC.skip (E.thenN (WC.seq (WC.seq (WC.region ?_))))
 refine W.any (.move rfl) rfl rfl rfl ?_
 refine W.any (.eql rfl rfl) rfl rfl rfl ?_
 refine W.nil (E.thenN ?_)
 refine WC.cond rfl (fun c2 => ?_) (fun c2 => ?_)
 ·have h0 : h = 0 := by omega
  subst h0
  refine WC.seq ?_
  refine WC.draw [0, 1, 2, 3, 4, 5, 6, 7] mixed (by kernel_rfl) ?_
  intro w6 d6
  have L6 := L0.trans d6
  refine G.any rfl rfl (.move rfl) rfl rfl rfl ?_
  refine G.any rfl rfl (.move rfl) rfl rfl rfl ?_
  refine G.any rfl rfl (.quoN (l) (y) (l / y) rfl rfl rfl rfl (by omega) (by omega) (rfl)) rfl rfl rfl ?_
  refine G.any rfl rfl (.move rfl) rfl rfl rfl ?_
  refine G.any rfl rfl (.move rfl) rfl rfl rfl ?_
  refine G.any rfl rfl (.remN (l) (y) (l % y) rfl rfl rfl rfl (by omega) (rfl)) rfl rfl rfl ?_
  refine G.any rfl rfl (.assign rfl) rfl rfl rfl ?_
  refine G.any rfl rfl (.assign rfl) rfl rfl rfl ?_
  refine G.nil (E.thenN (WC.ret (E.thenR ?_)))
  refine E.ret2 rfl rfl rfl ?_
  exact ⟨_, by rw [Nat.zero_mul, Nat.zero_add], L6⟩
 ·refine WC.skip (E.thenN (WC.seq (WC.region ?_)))
  refine W.any (.move rfl) rfl rfl rfl ?_
  refine W.ef rfl rfl rfl ?_
  refine Ef.call go105 rfl rfl (hlz w) ?_
  rintro _ w7_1 ⟨rfl, h7_1⟩
  refine ⟨_, rfl, ?_⟩
  have L7_1 := L0.trans h7_1
  refine W.rd (.idI (isS Tryz.underlying3) Tryz.underlying112 rfl (IntWalk.u64_in _ (by decide))) rfl rfl rfl ?_
  refine W.any (.assign rfl) rfl rfl rfl ?_
  refine W.nil (E.thenN (WC.seq (WC.region ?_)))
  refine W.any (.move rfl) rfl rfl rfl ?_
  refine W.any (.move rfl) rfl rfl rfl ?_
  refine W.any (.shlN (y) (2) (Y) rfl rfl rfl rfl (by decide) (by omega)) rfl rfl rfl ?_
  refine W.any (.assign rfl) rfl rfl rfl ?_
  refine W.nil (E.thenN (WC.seq (WC.region ?_)))
  refine W.any (.move rfl) rfl rfl rfl ?_
  refine W.any (.shrE (Y) (32) (a) rfl rfl rfl rfl (by decide) (by omega)) rfl rfl rfl ?_
  refine W.any (.assign rfl) rfl rfl rfl ?_
  refine W.nil (E.thenN (WC.seq (WC.region ?_)))
  refine W.any (.move rfl) rfl rfl rfl ?_
  refine W.any (.andE (Y) (4294967295) (b) rfl rfl rfl rfl (by omega) (by omega) ((mask32 _).trans hb0.symm)) rfl rfl rfl ?_
  refine W.any (.assign rfl) rfl rfl rfl ?_
  refine W.nil (E.thenN (WC.seq (WC.region ?_)))
  refine W.any (.move rfl) rfl rfl rfl ?_
  refine W.any (.move rfl) rfl rfl rfl ?_
  refine W.any (.shlN (h) (2) (h * 4) rfl rfl rfl rfl (by decide) (by omega)) rfl rfl rfl ?_
  refine W.any (.move rfl) rfl rfl rfl ?_
  refine W.any (.move rfl) rfl rfl rfl ?_
  refine W.any (.subN (64) (2) (62) rfl rfl rfl rfl (by decide) (by decide)) rfl rfl rfl ?_
  refine W.any (.shrE (l) (62) (l / 4611686018427387904) rfl rfl rfl rfl (by decide) (rfl)) rfl rfl rfl ?_
  refine W.any (.orE (h * 4) (l / 4611686018427387904) (U) rfl rfl rfl rfl (by omega) (by omega) (by rw [hUd, Nat.mul_comm h, show (4 : Nat) = 2 ^ 2 by decide]; exact (Nat.two_pow_add_eq_or_of_lt (by omega) _).symm)) rfl rfl rfl ?_
  refine W.any (.assign rfl) rfl rfl rfl ?_
  refine W.nil (E.thenN (WC.seq (WC.region ?_)))
  refine W.any (.move rfl) rfl rfl rfl ?_
  refine W.any (.move rfl) rfl rfl rfl ?_
  refine W.any (.shlN (l) (2) (v) rfl rfl rfl rfl (by decide) (hv.symm)) rfl rfl rfl ?_
  refine W.any (.assign rfl) rfl rfl rfl ?_
  refine W.nil (E.thenN (WC.seq (WC.region ?_)))
  refine W.any (.move rfl) rfl rfl rfl ?_
  refine W.any (.shrE (v) (32) (e1) rfl rfl rfl rfl (by decide) (by omega)) rfl rfl rfl ?_
  refine W.any (.assign rfl) rfl rfl rfl ?_
  refine W.nil (E.thenN (WC.seq (WC.region ?_)))
  refine W.any (.move rfl) rfl rfl rfl ?_
  refine W.any (.andE (v) (4294967295) (e0) rfl rfl rfl rfl (by omega) (by omega) ((mask32 _).trans he0.symm)) rfl rfl rfl ?_
  refine W.any (.assign rfl) rfl rfl rfl ?_
  refine W.nil (E.thenN (WC.seq (WC.region ?_)))
  refine W.any (.move rfl) rfl rfl rfl ?_
  refine W.any (.move rfl) rfl rfl rfl ?_
  refine W.any (.quoN (U) (a) (U / a) rfl rfl rfl rfl (by omega) (by omega) (rfl)) rfl rfl rfl ?_
  refine W.any (.assign rfl) rfl rfl rfl ?_
  refine W.nil (E.thenN (WC.seq (WC.region ?_)))
  refine W.any (.move rfl) rfl rfl rfl ?_
  refine W.any (.move rfl) rfl rfl rfl ?_
  refine W.any (.move rfl) rfl rfl rfl ?_
  refine W.any (.mulN (U / a) (a) (U / a * a) rfl rfl rfl rfl (Nat.mod_eq_of_lt (Nat.lt_of_le_of_lt (Nat.div_mul_le_self _ _) (by omega)))) rfl rfl rfl ?_
  refine W.any (.subN (U) (U / a * a) (U % a) rfl rfl rfl rfl (Nat.le_trans (Nat.div_mul_le_self _ _) (by omega)) (sub_div U a (by omega))) rfl rfl rfl ?_
  refine W.any (.assign rfl) rfl rfl rfl ?_
  refine W.nil (E.thenN ?_)
  refine WC.cut (ι := Unit) (fun () => [(2, .int .u64 ((Y : Nat) : Int)), (8, .int .u64 (2 : Int)), (9, .int .u64 ((a : Nat) : Int)), (10, .int .u64 ((b : Nat) : Int)), (11, .int .u64 ((U : Nat) : Int)), (13, .int .u64 ((e1 : Nat) : Int)), (14, .int .u64 ((e0 : Nat) : Int)), (15, .int .u64 ((Q1 : Nat) : Int))]) (fun () wc15 => Le w wc15) ?_ ?_
  ·refine WC.block ?_
   refine WC.loop (ι := Nat × Nat) (fun ⟨qh, rh⟩ => [(2, .int .u64 ((Y : Nat) : Int)), (8, .int .u64 (2 : Int)), (9, .int .u64 ((a : Nat) : Int)), (10, .int .u64 ((b : Nat) : Int)), (11, .int .u64 ((U : Nat) : Int)), (13, .int .u64 ((e1 : Nat) : Int)), (14, .int .u64 ((e0 : Nat) : Int)), (15, .int .u64 ((qh : Nat) : Int)), (16, .int .u64 ((rh : Nat) : Int))]) (fun ⟨qh, rh⟩ wl => Le w wl ∧ qh * a + rh = U ∧ Q1 ≤ qh ∧ rh < 4294967296 ∧ qh ≤ 4294967297) (fun ⟨qh, rh⟩ => qh) (U / a, U % a) ?_ ?_ ?_
   ·exact .cons rfl (.cons rfl (.cons rfl (.cons rfl (.cons rfl (.cons rfl (.cons rfl (.cons rfl (.cons rfl (.nil _)))))))))
   ·exact ⟨L7_1, by rw [Nat.mul_comm]; exact Nat.div_add_mod _ _, by rw [hQ1]; exact dig_start hY (by omega) hU (by omega), Nat.lt_of_lt_of_le (Nat.mod_lt _ (by omega)) (by omega), dig_first hY (by omega) (by omega) hU⟩
   ·rintro ⟨qh, rh⟩ wl ⟨Ll, hi, hq, hr, hq2⟩
    refine WC.seq (WC.seq (WC.region ?_))
    refine W.any (.move rfl) rfl rfl rfl ?_
    refine W.any (.geq rfl rfl) rfl rfl rfl ?_
    by_cases hb : 4294967296 ≤ qh
    ·refine W.any (.move rfl) rfl rfl rfl ?_
     refine W.skip rfl rfl rfl (decide_eq_true (by omega)) rfl rfl ?_
     refine W.skip rfl rfl rfl (decide_eq_true (by omega)) rfl rfl ?_
     refine W.skip rfl rfl rfl (decide_eq_true (by omega)) rfl rfl ?_
     refine W.skip rfl rfl rfl (decide_eq_true (by omega)) rfl rfl ?_
     refine W.skip rfl rfl rfl (decide_eq_true (by omega)) rfl rfl ?_
     refine W.skip rfl rfl rfl (decide_eq_true (by omega)) rfl rfl ?_
     refine W.skip rfl rfl rfl (decide_eq_true (by omega)) rfl rfl ?_
     refine W.skip rfl rfl rfl (decide_eq_true (by omega)) rfl rfl ?_
     refine W.any (.pickT rfl (decide_eq_true (by omega)) rfl) rfl rfl rfl ?_
     have hgt : Q1 < qh := by rw [hQ1]; exact dig_gt hY hU (by omega) hi (by omega)
     have hd : qh * a = (qh - 1) * a + a := by rw [← Nat.succ_mul]; congr 1; omega
     have hinv : (qh - 1) * a + (rh + a) = U := by omega
     refine W.nil (E.thenN ?_)
     refine WC.condT rfl ?_
     refine WC.skip (E.thenN (WC.block (WC.seq (WC.region ?_))))
     refine W.any (.move rfl) rfl rfl rfl ?_
     refine W.any (.subN (qh) (1) (qh - 1) rfl rfl rfl rfl (by omega) (by omega)) rfl rfl rfl ?_
     refine W.any (.assign rfl) rfl rfl rfl ?_
     refine W.nil (E.thenN (WC.seq (WC.region ?_)))
     refine W.any (.move rfl) rfl rfl rfl ?_
     refine W.any (.move rfl) rfl rfl rfl ?_
     refine W.any (.addN (rh) (a) (rh + a) rfl rfl rfl rfl (by omega)) rfl rfl rfl ?_
     refine W.any (.assign rfl) rfl rfl rfl ?_
     refine W.nil (E.thenN (WC.seq (WC.region ?_)))
     refine W.any (.move rfl) rfl rfl rfl ?_
     refine W.any (.geq rfl rfl) rfl rfl rfl ?_
     refine W.nil (E.thenN ?_)
     refine WC.cond rfl (fun c4 => ?_) (fun c4 => ?_)
     ·have hqe : qh - 1 = Q1 := Nat.le_antisymm (by rw [hQ1]; exact dig_brk hY (by omega) hb1 hinv (by omega) (by omega)) (by omega)
      refine WC.exit (E.blkX rfl (E.thenX (E.blkH ?_)))
      refine E.meet () (.cons rfl (.cons rfl (.cons rfl (.cons rfl (.cons rfl (.cons rfl (.cons rfl (.cons' rfl (int_eq (by rw [hqe])) (.nil _))))))))) ?_
      exact Ll
     ·refine WC.skip (E.blkN ?_)
      refine E.again (qh - 1, rh + a) (.cons rfl (.cons rfl (.cons rfl (.cons rfl (.cons rfl (.cons rfl (.cons rfl (.cons rfl (.cons rfl (.nil _)))))))))) ?_ ?_
      ·exact ⟨Ll, hinv, by omega, by omega, by omega⟩
      ·first | omega | (simp only []; omega)
    ·refine W.any (.move rfl) rfl rfl rfl ?_
     refine W.rdg (Any.rd (.move rfl) _) rfl rfl rfl (decide_eq_false (by omega)) rfl rfl ?_
     refine W.rdg (Any.rd (.move rfl) _) rfl rfl rfl (decide_eq_false (by omega)) rfl rfl ?_
     have hqb : qh * b < 18446744073709551616 := Nat.lt_of_le_of_lt (Nat.mul_le_mul (show qh ≤ 4294967295 by omega) (show b ≤ 4294967295 by omega)) (by decide)
     refine W.rdg (Any.rd (.mulN (qh) (b) (qh * b) rfl rfl rfl rfl (Nat.mod_eq_of_lt hqb)) _) rfl rfl rfl (decide_eq_false (by omega)) rfl rfl ?_
     refine W.rdg (Any.rd (.move rfl) _) rfl rfl rfl (decide_eq_false (by omega)) rfl rfl ?_
     refine W.rdg (Any.rd (.mulN (4294967296) (rh) (4294967296 * rh) rfl rfl rfl rfl (by omega)) _) rfl rfl rfl (decide_eq_false (by omega)) rfl rfl ?_
     refine W.rdg (Any.rd (.move rfl) _) rfl rfl rfl (decide_eq_false (by omega)) rfl rfl ?_
     refine W.rdg (Any.rd (.addN (4294967296 * rh) (e1) (4294967296 * rh + e1) rfl rfl rfl rfl (by omega)) _) rfl rfl rfl (decide_eq_false (by omega)) rfl rfl ?_
     refine W.rdg (Any.rd (.gtr rfl rfl) _) rfl rfl rfl (decide_eq_false (by omega)) rfl rfl ?_
     refine W.any (.pickF rfl (decide_eq_false (by omega)) rfl) rfl rfl rfl ?_
     refine W.nil (E.thenN ?_)
     refine WC.cond rfl (fun c3 => ?_) (fun c3 => ?_)
     ·have hgt : Q1 < qh := by rw [hQ1]; exact dig_gt hY hU (by omega) hi (by omega)
      have hd : qh * a = (qh - 1) * a + a := by rw [← Nat.succ_mul]; congr 1; omega
      have hinv : (qh - 1) * a + (rh + a) = U := by omega
      refine WC.skip (E.thenN (WC.block (WC.seq (WC.region ?_))))
      refine W.any (.move rfl) rfl rfl rfl ?_
      refine W.any (.subN (qh) (1) (qh - 1) rfl rfl rfl rfl (by omega) (by omega)) rfl rfl rfl ?_
      refine W.any (.assign rfl) rfl rfl rfl ?_
      refine W.nil (E.thenN (WC.seq (WC.region ?_)))
      refine W.any (.move rfl) rfl rfl rfl ?_
      refine W.any (.move rfl) rfl rfl rfl ?_
      refine W.any (.addN (rh) (a) (rh + a) rfl rfl rfl rfl (by omega)) rfl rfl rfl ?_
      refine W.any (.assign rfl) rfl rfl rfl ?_
      refine W.nil (E.thenN (WC.seq (WC.region ?_)))
      refine W.any (.move rfl) rfl rfl rfl ?_
      refine W.any (.geq rfl rfl) rfl rfl rfl ?_
      refine W.nil (E.thenN ?_)
      refine WC.cond rfl (fun c4 => ?_) (fun c4 => ?_)
      ·have hqe : qh - 1 = Q1 := Nat.le_antisymm (by rw [hQ1]; exact dig_brk hY (by omega) hb1 hinv (by omega) (by omega)) (by omega)
       refine WC.exit (E.blkX rfl (E.thenX (E.blkH ?_)))
       refine E.meet () (.cons rfl (.cons rfl (.cons rfl (.cons rfl (.cons rfl (.cons rfl (.cons rfl (.cons' rfl (int_eq (by rw [hqe])) (.nil _))))))))) ?_
       exact Ll
      ·refine WC.skip (E.blkN ?_)
       refine E.again (qh - 1, rh + a) (.cons rfl (.cons rfl (.cons rfl (.cons rfl (.cons rfl (.cons rfl (.cons rfl (.cons rfl (.cons rfl (.nil _)))))))))) ?_ ?_
       ·exact ⟨Ll, hinv, by omega, by omega, by omega⟩
       ·first | omega | (simp only []; omega)
     ·have hqe : qh = Q1 := Nat.le_antisymm (by rw [hQ1]; exact dig_le hY (by omega) hi (by omega)) hq
      refine WC.exit (E.thenX (E.thenX (E.blkH ?_)))
      refine E.meet () (.cons rfl (.cons rfl (.cons rfl (.cons rfl (.cons rfl (.cons rfl (.cons rfl (.cons' rfl (int_eq (by rw [hqe])) (.nil _))))))))) ?_
      exact Ll
  ·rintro ⟨⟩ wc15 Lc15
   refine WC.seq (WC.region ?_)
   refine W.any (.move rfl) rfl rfl rfl ?_
   refine W.any (.mulN (U) (4294967296) (U * 4294967296 % 18446744073709551616) rfl rfl rfl rfl (rfl)) rfl rfl rfl ?_
   refine W.any (.move rfl) rfl rfl rfl ?_
   refine W.any (.addN (U * 4294967296 % 18446744073709551616) (e1) ((U * 4294967296 + e1) % 18446744073709551616) rfl rfl rfl rfl (by rw [Nat.mod_add_mod])) rfl rfl rfl ?_
   refine W.any (.move rfl) rfl rfl rfl ?_
   refine W.any (.move rfl) rfl rfl rfl ?_
   refine W.any (.mulN (Q1) (Y) (Q1 * Y % 18446744073709551616) rfl rfl rfl rfl (rfl)) rfl rfl rfl ?_
   refine W.any (.subN ((U * 4294967296 + e1) % 18446744073709551616) (Q1 * Y % 18446744073709551616) (R) rfl rfl rfl rfl (Nat.le_of_lt (Nat.mod_lt _ (by decide))) ((dig_rest Y _ _ hQ1 (by omega) (by omega)).trans hR.symm)) rfl rfl rfl ?_
   refine W.any (.assign rfl) rfl rfl rfl ?_
   refine W.nil (E.thenN (WC.seq (WC.region ?_)))
   refine W.any (.move rfl) rfl rfl rfl ?_
   refine W.any (.move rfl) rfl rfl rfl ?_
   refine W.any (.quoN (R) (a) (R / a) rfl rfl rfl rfl (by omega) (by omega) (rfl)) rfl rfl rfl ?_
   refine W.any (.assign rfl) rfl rfl rfl ?_
   refine W.nil (E.thenN (WC.seq (WC.region ?_)))
   refine W.any (.move rfl) rfl rfl rfl ?_
   refine W.any (.move rfl) rfl rfl rfl ?_
   refine W.any (.move rfl) rfl rfl rfl ?_
   refine W.any (.mulN (R / a) (a) (R / a * a) rfl rfl rfl rfl (Nat.mod_eq_of_lt (Nat.lt_of_le_of_lt (Nat.div_mul_le_self _ _) (by omega)))) rfl rfl rfl ?_
   refine W.any (.subN (R) (R / a * a) (R % a) rfl rfl rfl rfl (Nat.le_trans (Nat.div_mul_le_self _ _) (by omega)) (sub_div R a (by omega))) rfl rfl rfl ?_
   refine W.any (.assign rfl) rfl rfl rfl ?_
   refine W.nil (E.thenN ?_)
   refine WC.cut (ι := Unit) (fun () => [(2, .int .u64 ((Y : Nat) : Int)), (8, .int .u64 (2 : Int)), (9, .int .u64 ((a : Nat) : Int)), (10, .int .u64 ((b : Nat) : Int)), (14, .int .u64 ((e0 : Nat) : Int)), (17, .int .u64 ((R : Nat) : Int)), (15, .int .u64 ((Q1 : Nat) : Int)), (18, .int .u64 ((Q2 : Nat) : Int))]) (fun () wc18 => Le w wc18) ?_ ?_
   ·refine WC.block ?_
    refine WC.loop (ι := Nat × Nat) (fun ⟨qh, rh⟩ => [(2, .int .u64 ((Y : Nat) : Int)), (8, .int .u64 (2 : Int)), (9, .int .u64 ((a : Nat) : Int)), (10, .int .u64 ((b : Nat) : Int)), (14, .int .u64 ((e0 : Nat) : Int)), (17, .int .u64 ((R : Nat) : Int)), (15, .int .u64 ((Q1 : Nat) : Int)), (18, .int .u64 ((qh : Nat) : Int)), (16, .int .u64 ((rh : Nat) : Int))]) (fun ⟨qh, rh⟩ wl => Le w wl ∧ qh * a + rh = R ∧ Q2 ≤ qh ∧ rh < 4294967296 ∧ qh ≤ 4294967297) (fun ⟨qh, rh⟩ => qh) (R / a, R % a) ?_ ?_ ?_
    ·exact .cons rfl (.cons rfl (.cons rfl (.cons rfl (.cons rfl (.cons rfl (.cons rfl (.cons rfl (.cons rfl (.nil _)))))))))
    ·exact ⟨Lc15, by rw [Nat.mul_comm]; exact Nat.div_add_mod _ _, by rw [hQ2]; exact dig_start hY (by omega) hRY (by omega), Nat.lt_of_lt_of_le (Nat.mod_lt _ (by omega)) (by omega), dig_first hY (by omega) (by omega) hRY⟩
    ·rintro ⟨qh, rh⟩ wl ⟨Ll, hi, hq, hr, hq2⟩
     refine WC.seq (WC.seq (WC.region ?_))
     refine W.any (.move rfl) rfl rfl rfl ?_
     refine W.any (.geq rfl rfl) rfl rfl rfl ?_
     by_cases hb : 4294967296 ≤ qh
     ·refine W.any (.move rfl) rfl rfl rfl ?_
      refine W.skip rfl rfl rfl (decide_eq_true (by omega)) rfl rfl ?_
      refine W.skip rfl rfl rfl (decide_eq_true (by omega)) rfl rfl ?_
      refine W.skip rfl rfl rfl (decide_eq_true (by omega)) rfl rfl ?_
      refine W.skip rfl rfl rfl (decide_eq_true (by omega)) rfl rfl ?_
      refine W.skip rfl rfl rfl (decide_eq_true (by omega)) rfl rfl ?_
      refine W.skip rfl rfl rfl (decide_eq_true (by omega)) rfl rfl ?_
      refine W.skip rfl rfl rfl (decide_eq_true (by omega)) rfl rfl ?_
      refine W.skip rfl rfl rfl (decide_eq_true (by omega)) rfl rfl ?_
      refine W.any (.pickT rfl (decide_eq_true (by omega)) rfl) rfl rfl rfl ?_
      have hgt : Q2 < qh := by rw [hQ2]; exact dig_gt hY hRY (by omega) hi (by omega)
      have hd : qh * a = (qh - 1) * a + a := by rw [← Nat.succ_mul]; congr 1; omega
      have hinv : (qh - 1) * a + (rh + a) = R := by omega
      refine W.nil (E.thenN ?_)
      refine WC.condT rfl ?_
      refine WC.skip (E.thenN (WC.block (WC.seq (WC.region ?_))))
      refine W.any (.move rfl) rfl rfl rfl ?_
      refine W.any (.subN (qh) (1) (qh - 1) rfl rfl rfl rfl (by omega) (by omega)) rfl rfl rfl ?_
      refine W.any (.assign rfl) rfl rfl rfl ?_
      refine W.nil (E.thenN (WC.seq (WC.region ?_)))
      refine W.any (.move rfl) rfl rfl rfl ?_
      refine W.any (.move rfl) rfl rfl rfl ?_
      refine W.any (.addN (rh) (a) (rh + a) rfl rfl rfl rfl (by omega)) rfl rfl rfl ?_
      refine W.any (.assign rfl) rfl rfl rfl ?_
      refine W.nil (E.thenN (WC.seq (WC.region ?_)))
      refine W.any (.move rfl) rfl rfl rfl ?_
      refine W.any (.geq rfl rfl) rfl rfl rfl ?_
      refine W.nil (E.thenN ?_)
      refine WC.cond rfl (fun c6 => ?_) (fun c6 => ?_)
      ·have hqe : qh - 1 = Q2 := Nat.le_antisymm (by rw [hQ2]; exact dig_brk hY (by omega) hb1 hinv (by omega) (by omega)) (by omega)
       refine WC.exit (E.blkX rfl (E.thenX (E.blkH ?_)))
       refine E.meet () (.cons rfl (.cons rfl (.cons rfl (.cons rfl (.cons rfl (.cons rfl (.cons rfl (.cons' rfl (int_eq (by rw [hqe])) (.nil _))))))))) ?_
       exact Ll
      ·refine WC.skip (E.blkN ?_)
       refine E.again (qh - 1, rh + a) (.cons rfl (.cons rfl (.cons rfl (.cons rfl (.cons rfl (.cons rfl (.cons rfl (.cons rfl (.cons rfl (.nil _)))))))))) ?_ ?_
       ·exact ⟨Ll, hinv, by omega, by omega, by omega⟩
       ·first | omega | (simp only []; omega)
     ·refine W.any (.move rfl) rfl rfl rfl ?_
      refine W.rdg (Any.rd (.move rfl) _) rfl rfl rfl (decide_eq_false (by omega)) rfl rfl ?_
      refine W.rdg (Any.rd (.move rfl) _) rfl rfl rfl (decide_eq_false (by omega)) rfl rfl ?_
      have hqb : qh * b < 18446744073709551616 := Nat.lt_of_le_of_lt (Nat.mul_le_mul (show qh ≤ 4294967295 by omega) (show b ≤ 4294967295 by omega)) (by decide)
      refine W.rdg (Any.rd (.mulN (qh) (b) (qh * b) rfl rfl rfl rfl (Nat.mod_eq_of_lt hqb)) _) rfl rfl rfl (decide_eq_false (by omega)) rfl rfl ?_
      refine W.rdg (Any.rd (.move rfl) _) rfl rfl rfl (decide_eq_false (by omega)) rfl rfl ?_
      refine W.rdg (Any.rd (.mulN (4294967296) (rh) (4294967296 * rh) rfl rfl rfl rfl (by omega)) _) rfl rfl rfl (decide_eq_false (by omega)) rfl rfl ?_
      refine W.rdg (Any.rd (.move rfl) _) rfl rfl rfl (decide_eq_false (by omega)) rfl rfl ?_
      refine W.rdg (Any.rd (.addN (4294967296 * rh) (e0) (4294967296 * rh + e0) rfl rfl rfl rfl (by omega)) _) rfl rfl rfl (decide_eq_false (by omega)) rfl rfl ?_
      refine W.rdg (Any.rd (.gtr rfl rfl) _) rfl rfl rfl (decide_eq_false (by omega)) rfl rfl ?_
      refine W.any (.pickF rfl (decide_eq_false (by omega)) rfl) rfl rfl rfl ?_
      refine W.nil (E.thenN ?_)
      refine WC.cond rfl (fun c5 => ?_) (fun c5 => ?_)
      ·have hgt : Q2 < qh := by rw [hQ2]; exact dig_gt hY hRY (by omega) hi (by omega)
       have hd : qh * a = (qh - 1) * a + a := by rw [← Nat.succ_mul]; congr 1; omega
       have hinv : (qh - 1) * a + (rh + a) = R := by omega
       refine WC.skip (E.thenN (WC.block (WC.seq (WC.region ?_))))
       refine W.any (.move rfl) rfl rfl rfl ?_
       refine W.any (.subN (qh) (1) (qh - 1) rfl rfl rfl rfl (by omega) (by omega)) rfl rfl rfl ?_
       refine W.any (.assign rfl) rfl rfl rfl ?_
       refine W.nil (E.thenN (WC.seq (WC.region ?_)))
       refine W.any (.move rfl) rfl rfl rfl ?_
       refine W.any (.move rfl) rfl rfl rfl ?_
       refine W.any (.addN (rh) (a) (rh + a) rfl rfl rfl rfl (by omega)) rfl rfl rfl ?_
       refine W.any (.assign rfl) rfl rfl rfl ?_
       refine W.nil (E.thenN (WC.seq (WC.region ?_)))
       refine W.any (.move rfl) rfl rfl rfl ?_
       refine W.any (.geq rfl rfl) rfl rfl rfl ?_
       refine W.nil (E.thenN ?_)
       refine WC.cond rfl (fun c6 => ?_) (fun c6 => ?_)
       ·have hqe : qh - 1 = Q2 := Nat.le_antisymm (by rw [hQ2]; exact dig_brk hY (by omega) hb1 hinv (by omega) (by omega)) (by omega)
        refine WC.exit (E.blkX rfl (E.thenX (E.blkH ?_)))
        refine E.meet () (.cons rfl (.cons rfl (.cons rfl (.cons rfl (.cons rfl (.cons rfl (.cons rfl (.cons' rfl (int_eq (by rw [hqe])) (.nil _))))))))) ?_
        exact Ll
       ·refine WC.skip (E.blkN ?_)
        refine E.again (qh - 1, rh + a) (.cons rfl (.cons rfl (.cons rfl (.cons rfl (.cons rfl (.cons rfl (.cons rfl (.cons rfl (.cons rfl (.nil _)))))))))) ?_ ?_
        ·exact ⟨Ll, hinv, by omega, by omega, by omega⟩
        ·first | omega | (simp only []; omega)
      ·have hqe : qh = Q2 := Nat.le_antisymm (by rw [hQ2]; exact dig_le hY (by omega) hi (by omega)) hq
       refine WC.exit (E.thenX (E.thenX (E.blkH ?_)))
       refine E.meet () (.cons rfl (.cons rfl (.cons rfl (.cons rfl (.cons rfl (.cons rfl (.cons rfl (.cons' rfl (int_eq (by rw [hqe])) (.nil _))))))))) ?_
       exact Ll
   ·rintro ⟨⟩ wc18 Lc18
    refine WC.seq (WC.region ?_)
    refine W.any (.move rfl) rfl rfl rfl ?_
    refine W.any (.mulN (Q1) (4294967296) (Q1 * 4294967296 % 18446744073709551616) rfl rfl rfl rfl (rfl)) rfl rfl rfl ?_
    refine W.any (.move rfl) rfl rfl rfl ?_
    refine W.any (.addN (Q1 * 4294967296 % 18446744073709551616) (Q2) ((Q1 * 4294967296 % 18446744073709551616 + Q2) % 18446744073709551616) rfl rfl rfl rfl (rfl)) rfl rfl rfl ?_
    refine W.any (.move rfl) rfl rfl rfl ?_
    refine W.any (.mulN (R) (4294967296) (R * 4294967296 % 18446744073709551616) rfl rfl rfl rfl (rfl)) rfl rfl rfl ?_
    refine W.any (.move rfl) rfl rfl rfl ?_
    refine W.any (.addN (R * 4294967296 % 18446744073709551616) (e0) ((R * 4294967296 + e0) % 18446744073709551616) rfl rfl rfl rfl (by rw [Nat.mod_add_mod])) rfl rfl rfl ?_
    refine W.any (.move rfl) rfl rfl rfl ?_
    refine W.any (.move rfl) rfl rfl rfl ?_
    refine W.any (.mulN (Q2) (Y) (Q2 * Y % 18446744073709551616) rfl rfl rfl rfl (rfl)) rfl rfl rfl ?_
    refine W.any (.subN ((R * 4294967296 + e0) % 18446744073709551616) (Q2 * Y % 18446744073709551616) ((R * 4294967296 + e0) % Y) rfl rfl rfl rfl (Nat.le_of_lt (Nat.mod_lt _ (by decide))) (dig_rest Y _ _ hQ2 (by omega) (by omega))) rfl rfl rfl ?_
    refine W.any (.move rfl) rfl rfl rfl ?_
    refine W.any (.shrE ((R * 4294967296 + e0) % Y) (2) ((h * 18446744073709551616 + l) % y) rfl rfl rfl rfl (by decide) (hfin)) rfl rfl rfl ?_
    refine W.any (.assign rfl) rfl rfl rfl ?_
    refine W.any (.assign rfl) rfl rfl rfl ?_
    refine W.nil (E.thenN (WC.ret ?_))
    refine E.ret2 rfl rfl rfl ?_
    exact ⟨_, rfl, Lc18⟩

theorem div64_ok3 (h l y : Nat) (h1 : 1152921504606846976 ≤ y) (h2 : y < 2305843009213693952) (hh : h < y) (hl : l < 18446744073709551616) (w : World) : Calls Tryz.prog 98 #[.int .u64 ((h : Nat) : Int), .int .u64 ((l : Nat) : Int), .int .u64 ((y : Nat) : Int)] w fun e w' => ∃ qq : Int, e = .returned (.tuple #[.int .u64 qq, .int .u64 (((h * 18446744073709551616 + l) % y : Nat) : Int)]) ∧ Le w w' := by
 obtain ⟨Y, hYd⟩ : ∃ Y, Y = y * 8 := ⟨_, rfl⟩
 obtain ⟨a, ha⟩ : ∃ a, a = Y / 4294967296 := ⟨_, rfl⟩
 obtain ⟨b, hb0⟩ : ∃ b, b = Y % 4294967296 := ⟨_, rfl⟩
 obtain ⟨U, hUd⟩ : ∃ U, U = h * 8 + l / 2305843009213693952 := ⟨_, rfl⟩
 obtain ⟨v, hv⟩ : ∃ v, v = l * 8 % 18446744073709551616 := ⟨_, rfl⟩
 obtain ⟨e1, he1⟩ : ∃ e1, e1 = v / 4294967296 := ⟨_, rfl⟩
 obtain ⟨e0, he0⟩ : ∃ e0, e0 = v % 4294967296 := ⟨_, rfl⟩
 have hY : Y = a * 4294967296 + b := by omega
 have hYlo : 9223372036854775808 ≤ Y := by omega
 have hYhi : Y < 18446744073709551616 := by omega
 have ha1 : 2147483648 ≤ a := by omega
 have ha2 : a < 4294967296 := by omega
 have hb1 : b < 4294967296 := by omega
 have hv2 : v < 18446744073709551616 := by omega
 have he12 : e1 < 4294967296 := by omega
 have he02 : e0 < 4294967296 := by omega
 have hU : U < Y := by omega
 obtain ⟨R, hR⟩ : ∃ R, R = (U * 4294967296 + e1) % Y := ⟨_, rfl⟩
 obtain ⟨Q1, hQ1⟩ : ∃ Q1, Q1 = (U * 4294967296 + e1) / Y := ⟨_, rfl⟩
 obtain ⟨Q2, hQ2⟩ : ∃ Q2, Q2 = (R * 4294967296 + e0) / Y := ⟨_, rfl⟩
 have hRY : R < Y := by rw [hR]; exact Nat.mod_lt _ (by omega)
 have hfin : (R * 4294967296 + e0) % Y / 2 ^ 3 = (h * 18446744073709551616 + l) % y := div_fin3 h l y Y U v e1 e0 R hYd hUd hv he1 he0 hR (by omega)
 have hlz : ∀ w, Calls Tryz.prog 105 #[.int .u64 ((y : Nat) : Int)] w (fun e w' => e = .returned (.int .i64 3) ∧ Le w w') := fun w => by
  have := lz64_ok y (by omega) (by omega) w
  rw [if_pos (by omega)] at this
  exact this
 refine enter Tryz.func98 rfl rfl ?_
 have L0 := Le.refl w
 refine WC.seq (WC.region ?_)
 refine W.any (.assign rfl) rfl rfl rfl ?_
 refine W.any (.assign rfl) rfl rfl rfl ?_
 refine W.nil (E.thenN (WC.seq (WC.seq (WC.region ?_))))
 refine W.any (.move rfl) rfl rfl rfl ?_
 refine W.any (.eql rfl rfl) rfl rfl rfl ?_
 refine W.nil (E.thenN ?_)
 refine WC.condB rfl (fun h => absurd h (by simp; omega)) (fun _ => ?_)
 refine WC.skip (E.thenN (WC.seq (WC.seq (WC.region ?_))))
 refine W.any (.move rfl) rfl rfl rfl ?_
 refine W.any (.move rfl) rfl rfl rfl ?_
 refine W.any (.leq rfl rfl) rfl rfl rfl ?_
 refine W.nil (E.thenN ?_)
 refine WC.condB rfl (fun h => absurd h (by simp; omega)) (fun _ => ?_)
 refine WC.skip (E.thenN (WC.seq (WC.seq (WC.region ?_))))
 refine W.any (.move rfl) rfl rfl rfl ?_
 refine W.any (.eql rfl rfl) rfl rfl rfl ?_
 refine W.nil (E.thenN ?_)
 refine WC.cond rfl (fun c2 => ?_) (fun c2 => ?_)
 ·have h0 : h = 0 := by omega
  subst h0
  refine WC.seq ?_
  refine WC.draw [0, 1, 2, 3, 4, 5, 6, 7] mixed (by kernel_rfl) ?_
  intro w6 d6
  have L6 := L0.trans d6
  refine G.any rfl rfl (.move rfl) rfl rfl rfl ?_
  refine G.any rfl rfl (.move rfl) rfl rfl rfl ?_
  refine G.any rfl rfl (.quoN (l) (y) (l / y) rfl rfl rfl rfl (by omega) (by omega) (rfl)) rfl rfl rfl ?_
  refine G.any rfl rfl (.move rfl) rfl rfl rfl ?_
  refine G.any rfl rfl (.move rfl) rfl rfl rfl ?_
  refine G.any rfl rfl (.remN (l) (y) (l % y) rfl rfl rfl rfl (by omega) (rfl)) rfl rfl rfl ?_
  refine G.any rfl rfl (.assign rfl) rfl rfl rfl ?_
  refine G.any rfl rfl (.assign rfl) rfl rfl rfl ?_
  refine G.nil (E.thenN (WC.ret (E.thenR ?_)))
  refine E.ret2 rfl rfl rfl ?_
  exact ⟨_, by rw [Nat.zero_mul, Nat.zero_add], L6⟩
 ·refine WC.skip (E.thenN (WC.seq (WC.region ?_)))
  refine W.any (.move rfl) rfl rfl rfl ?_
  refine W.ef rfl rfl rfl ?_
  refine Ef.call go105 rfl rfl (hlz w) ?_
  rintro _ w7_1 ⟨rfl, h7_1⟩
  refine ⟨_, rfl, ?_⟩
  have L7_1 := L0.trans h7_1
  refine W.rd (.idI (isS Tryz.underlying3) Tryz.underlying112 rfl (IntWalk.u64_in _ (by decide))) rfl rfl rfl ?_
  refine W.any (.assign rfl) rfl rfl rfl ?_
  refine W.nil (E.thenN (WC.seq (WC.region ?_)))
  refine W.any (.move rfl) rfl rfl rfl ?_
  refine W.any (.move rfl) rfl rfl rfl ?_
  refine W.any (.shlN (y) (3) (Y) rfl rfl rfl rfl (by decide) (by omega)) rfl rfl rfl ?_
  refine W.any (.assign rfl) rfl rfl rfl ?_
  refine W.nil (E.thenN (WC.seq (WC.region ?_)))
  refine W.any (.move rfl) rfl rfl rfl ?_
  refine W.any (.shrE (Y) (32) (a) rfl rfl rfl rfl (by decide) (by omega)) rfl rfl rfl ?_
  refine W.any (.assign rfl) rfl rfl rfl ?_
  refine W.nil (E.thenN (WC.seq (WC.region ?_)))
  refine W.any (.move rfl) rfl rfl rfl ?_
  refine W.any (.andE (Y) (4294967295) (b) rfl rfl rfl rfl (by omega) (by omega) ((mask32 _).trans hb0.symm)) rfl rfl rfl ?_
  refine W.any (.assign rfl) rfl rfl rfl ?_
  refine W.nil (E.thenN (WC.seq (WC.region ?_)))
  refine W.any (.move rfl) rfl rfl rfl ?_
  refine W.any (.move rfl) rfl rfl rfl ?_
  refine W.any (.shlN (h) (3) (h * 8) rfl rfl rfl rfl (by decide) (by omega)) rfl rfl rfl ?_
  refine W.any (.move rfl) rfl rfl rfl ?_
  refine W.any (.move rfl) rfl rfl rfl ?_
  refine W.any (.subN (64) (3) (61) rfl rfl rfl rfl (by decide) (by decide)) rfl rfl rfl ?_
  refine W.any (.shrE (l) (61) (l / 2305843009213693952) rfl rfl rfl rfl (by decide) (rfl)) rfl rfl rfl ?_
  refine W.any (.orE (h * 8) (l / 2305843009213693952) (U) rfl rfl rfl rfl (by omega) (by omega) (by rw [hUd, Nat.mul_comm h, show (8 : Nat) = 2 ^ 3 by decide]; exact (Nat.two_pow_add_eq_or_of_lt (by omega) _).symm)) rfl rfl rfl ?_
  refine W.any (.assign rfl) rfl rfl rfl ?_
  refine W.nil (E.thenN (WC.seq (WC.region ?_)))
  refine W.any (.move rfl) rfl rfl rfl ?_
  refine W.any (.move rfl) rfl rfl rfl ?_
  refine W.any (.shlN (l) (3) (v) rfl rfl rfl rfl (by decide) (hv.symm)) rfl rfl rfl ?_
  refine W.any (.assign rfl) rfl rfl rfl ?_
  refine W.nil (E.thenN (WC.seq (WC.region ?_)))
  refine W.any (.move rfl) rfl rfl rfl ?_
  refine W.any (.shrE (v) (32) (e1) rfl rfl rfl rfl (by decide) (by omega)) rfl rfl rfl ?_
  refine W.any (.assign rfl) rfl rfl rfl ?_
  refine W.nil (E.thenN (WC.seq (WC.region ?_)))
  refine W.any (.move rfl) rfl rfl rfl ?_
  refine W.any (.andE (v) (4294967295) (e0) rfl rfl rfl rfl (by omega) (by omega) ((mask32 _).trans he0.symm)) rfl rfl rfl ?_
  refine W.any (.assign rfl) rfl rfl rfl ?_
  refine W.nil (E.thenN (WC.seq (WC.region ?_)))
  refine W.any (.move rfl) rfl rfl rfl ?_
  refine W.any (.move rfl) rfl rfl rfl ?_
  refine W.any (.quoN (U) (a) (U / a) rfl rfl rfl rfl (by omega) (by omega) (rfl)) rfl rfl rfl ?_
  refine W.any (.assign rfl) rfl rfl rfl ?_
  refine W.nil (E.thenN (WC.seq (WC.region ?_)))
  refine W.any (.move rfl) rfl rfl rfl ?_
  refine W.any (.move rfl) rfl rfl rfl ?_
  refine W.any (.move rfl) rfl rfl rfl ?_
  refine W.any (.mulN (U / a) (a) (U / a * a) rfl rfl rfl rfl (Nat.mod_eq_of_lt (Nat.lt_of_le_of_lt (Nat.div_mul_le_self _ _) (by omega)))) rfl rfl rfl ?_
  refine W.any (.subN (U) (U / a * a) (U % a) rfl rfl rfl rfl (Nat.le_trans (Nat.div_mul_le_self _ _) (by omega)) (sub_div U a (by omega))) rfl rfl rfl ?_
  refine W.any (.assign rfl) rfl rfl rfl ?_
  refine W.nil (E.thenN ?_)
  refine WC.cut (ι := Unit) (fun () => [(2, .int .u64 ((Y : Nat) : Int)), (8, .int .u64 (3 : Int)), (9, .int .u64 ((a : Nat) : Int)), (10, .int .u64 ((b : Nat) : Int)), (11, .int .u64 ((U : Nat) : Int)), (13, .int .u64 ((e1 : Nat) : Int)), (14, .int .u64 ((e0 : Nat) : Int)), (15, .int .u64 ((Q1 : Nat) : Int))]) (fun () wc15 => Le w wc15) ?_ ?_
  ·refine WC.block ?_
   refine WC.loop (ι := Nat × Nat) (fun ⟨qh, rh⟩ => [(2, .int .u64 ((Y : Nat) : Int)), (8, .int .u64 (3 : Int)), (9, .int .u64 ((a : Nat) : Int)), (10, .int .u64 ((b : Nat) : Int)), (11, .int .u64 ((U : Nat) : Int)), (13, .int .u64 ((e1 : Nat) : Int)), (14, .int .u64 ((e0 : Nat) : Int)), (15, .int .u64 ((qh : Nat) : Int)), (16, .int .u64 ((rh : Nat) : Int))]) (fun ⟨qh, rh⟩ wl => Le w wl ∧ qh * a + rh = U ∧ Q1 ≤ qh ∧ rh < 4294967296 ∧ qh ≤ 4294967297) (fun ⟨qh, rh⟩ => qh) (U / a, U % a) ?_ ?_ ?_
   ·exact .cons rfl (.cons rfl (.cons rfl (.cons rfl (.cons rfl (.cons rfl (.cons rfl (.cons rfl (.cons rfl (.nil _)))))))))
   ·exact ⟨L7_1, by rw [Nat.mul_comm]; exact Nat.div_add_mod _ _, by rw [hQ1]; exact dig_start hY (by omega) hU (by omega), Nat.lt_of_lt_of_le (Nat.mod_lt _ (by omega)) (by omega), dig_first hY (by omega) (by omega) hU⟩
   ·rintro ⟨qh, rh⟩ wl ⟨Ll, hi, hq, hr, hq2⟩
    refine WC.seq (WC.seq (WC.region ?_))
    refine W.any (.move rfl) rfl rfl rfl ?_
    refine W.any (.geq rfl rfl) rfl rfl rfl ?_
    by_cases hb : 4294967296 ≤ qh
    ·refine W.any (.move rfl) rfl rfl rfl ?_
     refine W.skip rfl rfl rfl (decide_eq_true (by omega)) rfl rfl ?_
     refine W.skip rfl rfl rfl (decide_eq_true (by omega)) rfl rfl ?_
     refine W.skip rfl rfl rfl (decide_eq_true (by omega)) rfl rfl ?_
     refine W.skip rfl rfl rfl (decide_eq_true (by omega)) rfl rfl ?_
     refine W.skip rfl rfl rfl (decide_eq_true (by omega)) rfl rfl ?_
     refine W.skip rfl rfl rfl (decide_eq_true (by omega)) rfl rfl ?_
     refine W.skip rfl rfl rfl (decide_eq_true (by omega)) rfl rfl ?_
     refine W.skip rfl rfl rfl (decide_eq_true (by omega)) rfl rfl ?_
     refine W.any (.pickT rfl (decide_eq_true (by omega)) rfl) rfl rfl rfl ?_
     have hgt : Q1 < qh := by rw [hQ1]; exact dig_gt hY hU (by omega) hi (by omega)
     have hd : qh * a = (qh - 1) * a + a := by rw [← Nat.succ_mul]; congr 1; omega
     have hinv : (qh - 1) * a + (rh + a) = U := by omega
     refine W.nil (E.thenN ?_)
     refine WC.condT rfl ?_
     refine WC.skip (E.thenN (WC.block (WC.seq (WC.region ?_))))
     refine W.any (.move rfl) rfl rfl rfl ?_
     refine W.any (.subN (qh) (1) (qh - 1) rfl rfl rfl rfl (by omega) (by omega)) rfl rfl rfl ?_
     refine W.any (.assign rfl) rfl rfl rfl ?_
     refine W.nil (E.thenN (WC.seq (WC.region ?_)))
     refine W.any (.move rfl) rfl rfl rfl ?_
     refine W.any (.move rfl) rfl rfl rfl ?_
     refine W.any (.addN (rh) (a) (rh + a) rfl rfl rfl rfl (by omega)) rfl rfl rfl ?_
     refine W.any (.assign rfl) rfl rfl rfl ?_
     refine W.nil (E.thenN (WC.seq (WC.region ?_)))
     refine W.any (.move rfl) rfl rfl rfl ?_
     refine W.any (.geq rfl rfl) rfl rfl rfl ?_
     refine W.nil (E.thenN ?_)
     refine WC.cond rfl (fun c4 => ?_) (fun c4 => ?_)
     ·have hqe : qh - 1 = Q1 := Nat.le_antisymm (by rw [hQ1]; exact dig_brk hY (by omega) hb1 hinv (by omega) (by omega)) (by omega)
      refine WC.exit (E.blkX rfl (E.thenX (E.blkH ?_)))
      refine E.meet () (.cons rfl (.cons rfl (.cons rfl (.cons rfl (.cons rfl (.cons rfl (.cons rfl (.cons' rfl (int_eq (by rw [hqe])) (.nil _))))))))) ?_
      exact Ll
     ·refine WC.skip (E.blkN ?_)
      refine E.again (qh - 1, rh + a) (.cons rfl (.cons rfl (.cons rfl (.cons rfl (.cons rfl (.cons rfl (.cons rfl (.cons rfl (.cons rfl (.nil _)))))))))) ?_ ?_
      ·exact ⟨Ll, hinv, by omega, by omega, by omega⟩
      ·first | omega | (simp only []; omega)
    ·refine W.any (.move rfl) rfl rfl rfl ?_
     refine W.rdg (Any.rd (.move rfl) _) rfl rfl rfl (decide_eq_false (by omega)) rfl rfl ?_
     refine W.rdg (Any.rd (.move rfl) _) rfl rfl rfl (decide_eq_false (by omega)) rfl rfl ?_
     have hqb : qh * b < 18446744073709551616 := Nat.lt_of_le_of_lt (Nat.mul_le_mul (show qh ≤ 4294967295 by omega) (show b ≤ 4294967295 by omega)) (by decide)
     refine W.rdg (Any.rd (.mulN (qh) (b) (qh * b) rfl rfl rfl rfl (Nat.mod_eq_of_lt hqb)) _) rfl rfl rfl (decide_eq_false (by omega)) rfl rfl ?_
     refine W.rdg (Any.rd (.move rfl) _) rfl rfl rfl (decide_eq_false (by omega)) rfl rfl ?_
     refine W.rdg (Any.rd (.mulN (4294967296) (rh) (4294967296 * rh) rfl rfl rfl rfl (by omega)) _) rfl rfl rfl (decide_eq_false (by omega)) rfl rfl ?_
     refine W.rdg (Any.rd (.move rfl) _) rfl rfl rfl (decide_eq_false (by omega)) rfl rfl ?_
     refine W.rdg (Any.rd (.addN (4294967296 * rh) (e1) (4294967296 * rh + e1) rfl rfl rfl rfl (by omega)) _) rfl rfl rfl (decide_eq_false (by omega)) rfl rfl ?_
     refine W.rdg (Any.rd (.gtr rfl rfl) _) rfl rfl rfl (decide_eq_false (by omega)) rfl rfl ?_
     refine W.any (.pickF rfl (decide_eq_false (by omega)) rfl) rfl rfl rfl ?_
     refine W.nil (E.thenN ?_)
     refine WC.cond rfl (fun c3 => ?_) (fun c3 => ?_)
     ·have hgt : Q1 < qh := by rw [hQ1]; exact dig_gt hY hU (by omega) hi (by omega)
      have hd : qh * a = (qh - 1) * a + a := by rw [← Nat.succ_mul]; congr 1; omega
      have hinv : (qh - 1) * a + (rh + a) = U := by omega
      refine WC.skip (E.thenN (WC.block (WC.seq (WC.region ?_))))
      refine W.any (.move rfl) rfl rfl rfl ?_
      refine W.any (.subN (qh) (1) (qh - 1) rfl rfl rfl rfl (by omega) (by omega)) rfl rfl rfl ?_
      refine W.any (.assign rfl) rfl rfl rfl ?_
      refine W.nil (E.thenN (WC.seq (WC.region ?_)))
      refine W.any (.move rfl) rfl rfl rfl ?_
      refine W.any (.move rfl) rfl rfl rfl ?_
      refine W.any (.addN (rh) (a) (rh + a) rfl rfl rfl rfl (by omega)) rfl rfl rfl ?_
      refine W.any (.assign rfl) rfl rfl rfl ?_
      refine W.nil (E.thenN (WC.seq (WC.region ?_)))
      refine W.any (.move rfl) rfl rfl rfl ?_
      refine W.any (.geq rfl rfl) rfl rfl rfl ?_
      refine W.nil (E.thenN ?_)
      refine WC.cond rfl (fun c4 => ?_) (fun c4 => ?_)
      ·have hqe : qh - 1 = Q1 := Nat.le_antisymm (by rw [hQ1]; exact dig_brk hY (by omega) hb1 hinv (by omega) (by omega)) (by omega)
       refine WC.exit (E.blkX rfl (E.thenX (E.blkH ?_)))
       refine E.meet () (.cons rfl (.cons rfl (.cons rfl (.cons rfl (.cons rfl (.cons rfl (.cons rfl (.cons' rfl (int_eq (by rw [hqe])) (.nil _))))))))) ?_
       exact Ll
      ·refine WC.skip (E.blkN ?_)
       refine E.again (qh - 1, rh + a) (.cons rfl (.cons rfl (.cons rfl (.cons rfl (.cons rfl (.cons rfl (.cons rfl (.cons rfl (.cons rfl (.nil _)))))))))) ?_ ?_
       ·exact ⟨Ll, hinv, by omega, by omega, by omega⟩
       ·first | omega | (simp only []; omega)
     ·have hqe : qh = Q1 := Nat.le_antisymm (by rw [hQ1]; exact dig_le hY (by omega) hi (by omega)) hq
      refine WC.exit (E.thenX (E.thenX (E.blkH ?_)))
      refine E.meet () (.cons rfl (.cons rfl (.cons rfl (.cons rfl (.cons rfl (.cons rfl (.cons rfl (.cons' rfl (int_eq (by rw [hqe])) (.nil _))))))))) ?_
      exact Ll
  ·rintro ⟨⟩ wc15 Lc15
   refine WC.seq (WC.region ?_)
   refine W.any (.move rfl) rfl rfl rfl ?_
   refine W.any (.mulN (U) (4294967296) (U * 4294967296 % 18446744073709551616) rfl rfl rfl rfl (rfl)) rfl rfl rfl ?_
   refine W.any (.move rfl) rfl rfl rfl ?_
   refine W.any (.addN (U * 4294967296 % 18446744073709551616) (e1) ((U * 4294967296 + e1) % 18446744073709551616) rfl rfl rfl rfl (by rw [Nat.mod_add_mod])) rfl rfl rfl ?_
   refine W.any (.move rfl) rfl rfl rfl ?_
   refine W.any (.move rfl) rfl rfl rfl ?_
   refine W.any (.mulN (Q1) (Y) (Q1 * Y % 18446744073709551616) rfl rfl rfl rfl (rfl)) rfl rfl rfl ?_
   refine W.any (.subN ((U * 4294967296 + e1) % 18446744073709551616) (Q1 * Y % 18446744073709551616) (R) rfl rfl rfl rfl (Nat.le_of_lt (Nat.mod_lt _ (by decide))) ((dig_rest Y _ _ hQ1 (by omega) (by omega)).trans hR.symm)) rfl rfl rfl ?_
   refine W.any (.assign rfl) rfl rfl rfl ?_
   refine W.nil (E.thenN (WC.seq (WC.region ?_)))
   refine W.any (.move rfl) rfl rfl rfl ?_
   refine W.any (.move rfl) rfl rfl rfl ?_
   refine W.any (.quoN (R) (a) (R / a) rfl rfl rfl rfl (by omega) (by omega) (rfl)) rfl rfl rfl ?_
   refine W.any (.assign rfl) rfl rfl rfl ?_
   refine W.nil (E.thenN (WC.seq (WC.region ?_)))
   refine W.any (.move rfl) rfl rfl rfl ?_
   refine W.any (.move rfl) rfl rfl rfl ?_
   refine W.any (.move rfl) rfl rfl rfl ?_
   refine W.any (.mulN (R / a) (a) (R / a * a) rfl rfl rfl rfl (Nat.mod_eq_of_lt (Nat.lt_of_le_of_lt (Nat.div_mul_le_self _ _) (by omega)))) rfl rfl rfl ?_
   refine W.any (.subN (R) (R / a * a) (R % a) rfl rfl rfl rfl (Nat.le_trans (Nat.div_mul_le_self _ _) (by omega)) (sub_div R a (by omega))) rfl rfl rfl ?_
   refine W.any (.assign rfl) rfl rfl rfl ?_
   refine W.nil (E.thenN ?_)
   refine WC.cut (ι := Unit) (fun () => [(2, .int .u64 ((Y : Nat) : Int)), (8, .int .u64 (3 : Int)), (9, .int .u64 ((a : Nat) : Int)), (10, .int .u64 ((b : Nat) : Int)), (14, .int .u64 ((e0 : Nat) : Int)), (17, .int .u64 ((R : Nat) : Int)), (15, .int .u64 ((Q1 : Nat) : Int)), (18, .int .u64 ((Q2 : Nat) : Int))]) (fun () wc18 => Le w wc18) ?_ ?_
   ·refine WC.block ?_
    refine WC.loop (ι := Nat × Nat) (fun ⟨qh, rh⟩ => [(2, .int .u64 ((Y : Nat) : Int)), (8, .int .u64 (3 : Int)), (9, .int .u64 ((a : Nat) : Int)), (10, .int .u64 ((b : Nat) : Int)), (14, .int .u64 ((e0 : Nat) : Int)), (17, .int .u64 ((R : Nat) : Int)), (15, .int .u64 ((Q1 : Nat) : Int)), (18, .int .u64 ((qh : Nat) : Int)), (16, .int .u64 ((rh : Nat) : Int))]) (fun ⟨qh, rh⟩ wl => Le w wl ∧ qh * a + rh = R ∧ Q2 ≤ qh ∧ rh < 4294967296 ∧ qh ≤ 4294967297) (fun ⟨qh, rh⟩ => qh) (R / a, R % a) ?_ ?_ ?_
    ·exact .cons rfl (.cons rfl (.cons rfl (.cons rfl (.cons rfl (.cons rfl (.cons rfl (.cons rfl (.cons rfl (.nil _)))))))))
    ·exact ⟨Lc15, by rw [Nat.mul_comm]; exact Nat.div_add_mod _ _, by rw [hQ2]; exact dig_start hY (by omega) hRY (by omega), Nat.lt_of_lt_of_le (Nat.mod_lt _ (by omega)) (by omega), dig_first hY (by omega) (by omega) hRY⟩
    ·rintro ⟨qh, rh⟩ wl ⟨Ll, hi, hq, hr, hq2⟩
     refine WC.seq (WC.seq (WC.region ?_))
     refine W.any (.move rfl) rfl rfl rfl ?_
     refine W.any (.geq rfl rfl) rfl rfl rfl ?_
     by_cases hb : 4294967296 ≤ qh
     ·refine W.any (.move rfl) rfl rfl rfl ?_
      refine W.skip rfl rfl rfl (decide_eq_true (by omega)) rfl rfl ?_
      refine W.skip rfl rfl rfl (decide_eq_true (by omega)) rfl rfl ?_
      refine W.skip rfl rfl rfl (decide_eq_true (by omega)) rfl rfl ?_
      refine W.skip rfl rfl rfl (decide_eq_true (by omega)) rfl rfl ?_
      refine W.skip rfl rfl rfl (decide_eq_true (by omega)) rfl rfl ?_
      refine W.skip rfl rfl rfl (decide_eq_true (by omega)) rfl rfl ?_
      refine W.skip rfl rfl rfl (decide_eq_true (by omega)) rfl rfl ?_
      refine W.skip rfl rfl rfl (decide_eq_true (by omega)) rfl rfl ?_
      refine W.any (.pickT rfl (decide_eq_true (by omega)) rfl) rfl rfl rfl ?_
      have hgt : Q2 < qh := by rw [hQ2]; exact dig_gt hY hRY (by omega) hi (by omega)
      have hd : qh * a = (qh - 1) * a + a := by rw [← Nat.succ_mul]; congr 1; omega
      have hinv : (qh - 1) * a + (rh + a) = R := by omega
      refine W.nil (E.thenN ?_)
      refine WC.condT rfl ?_
      refine WC.skip (E.thenN (WC.block (WC.seq (WC.region ?_))))
      refine W.any (.move rfl) rfl rfl rfl ?_
      refine W.any (.subN (qh) (1) (qh - 1) rfl rfl rfl rfl (by omega) (by omega)) rfl rfl rfl ?_
      refine W.any (.assign rfl) rfl rfl rfl ?_
      refine W.nil (E.thenN (WC.seq (WC.region ?_)))
      refine W.any (.move rfl) rfl rfl rfl ?_
      refine W.any (.move rfl) rfl rfl rfl ?_
      refine W.any (.addN (rh) (a) (rh + a) rfl rfl rfl rfl (by omega)) rfl rfl rfl ?_
      refine W.any (.assign rfl) rfl rfl rfl ?_
      refine W.nil (E.thenN (WC.seq (WC.region ?_)))
      refine W.any (.move rfl) rfl rfl rfl ?_
      refine W.any (.geq rfl rfl) rfl rfl rfl ?_
      refine W.nil (E.thenN ?_)
      refine WC.cond rfl (fun c6 => ?_) (fun c6 => ?_)
      ·have hqe : qh - 1 = Q2 := Nat.le_antisymm (by rw [hQ2]; exact dig_brk hY (by omega) hb1 hinv (by omega) (by omega)) (by omega)
       refine WC.exit (E.blkX rfl (E.thenX (E.blkH ?_)))
       refine E.meet () (.cons rfl (.cons rfl (.cons rfl (.cons rfl (.cons rfl (.cons rfl (.cons rfl (.cons' rfl (int_eq (by rw [hqe])) (.nil _))))))))) ?_
       exact Ll
      ·refine WC.skip (E.blkN ?_)
       refine E.again (qh - 1, rh + a) (.cons rfl (.cons rfl (.cons rfl (.cons rfl (.cons rfl (.cons rfl (.cons rfl (.cons rfl (.cons rfl (.nil _)))))))))) ?_ ?_
       ·exact ⟨Ll, hinv, by omega, by omega, by omega⟩
       ·first | omega | (simp only []; omega)
     ·refine W.any (.move rfl) rfl rfl rfl ?_
      refine W.rdg (Any.rd (.move rfl) _) rfl rfl rfl (decide_eq_false (by omega)) rfl rfl ?_
      refine W.rdg (Any.rd (.move rfl) _) rfl rfl rfl (decide_eq_false (by omega)) rfl rfl ?_
      have hqb : qh * b < 18446744073709551616 := Nat.lt_of_le_of_lt (Nat.mul_le_mul (show qh ≤ 4294967295 by omega) (show b ≤ 4294967295 by omega)) (by decide)
      refine W.rdg (Any.rd (.mulN (qh) (b) (qh * b) rfl rfl rfl rfl (Nat.mod_eq_of_lt hqb)) _) rfl rfl rfl (decide_eq_false (by omega)) rfl rfl ?_
      refine W.rdg (Any.rd (.move rfl) _) rfl rfl rfl (decide_eq_false (by omega)) rfl rfl ?_
      refine W.rdg (Any.rd (.mulN (4294967296) (rh) (4294967296 * rh) rfl rfl rfl rfl (by omega)) _) rfl rfl rfl (decide_eq_false (by omega)) rfl rfl ?_
      refine W.rdg (Any.rd (.move rfl) _) rfl rfl rfl (decide_eq_false (by omega)) rfl rfl ?_
      refine W.rdg (Any.rd (.addN (4294967296 * rh) (e0) (4294967296 * rh + e0) rfl rfl rfl rfl (by omega)) _) rfl rfl rfl (decide_eq_false (by omega)) rfl rfl ?_
      refine W.rdg (Any.rd (.gtr rfl rfl) _) rfl rfl rfl (decide_eq_false (by omega)) rfl rfl ?_
      refine W.any (.pickF rfl (decide_eq_false (by omega)) rfl) rfl rfl rfl ?_
      refine W.nil (E.thenN ?_)
      refine WC.cond rfl (fun c5 => ?_) (fun c5 => ?_)
      ·have hgt : Q2 < qh := by rw [hQ2]; exact dig_gt hY hRY (by omega) hi (by omega)
       have hd : qh * a = (qh - 1) * a + a := by rw [← Nat.succ_mul]; congr 1; omega
       have hinv : (qh - 1) * a + (rh + a) = R := by omega
       refine WC.skip (E.thenN (WC.block (WC.seq (WC.region ?_))))
       refine W.any (.move rfl) rfl rfl rfl ?_
       refine W.any (.subN (qh) (1) (qh - 1) rfl rfl rfl rfl (by omega) (by omega)) rfl rfl rfl ?_
       refine W.any (.assign rfl) rfl rfl rfl ?_
       refine W.nil (E.thenN (WC.seq (WC.region ?_)))
       refine W.any (.move rfl) rfl rfl rfl ?_
       refine W.any (.move rfl) rfl rfl rfl ?_
       refine W.any (.addN (rh) (a) (rh + a) rfl rfl rfl rfl (by omega)) rfl rfl rfl ?_
       refine W.any (.assign rfl) rfl rfl rfl ?_
       refine W.nil (E.thenN (WC.seq (WC.region ?_)))
       refine W.any (.move rfl) rfl rfl rfl ?_
       refine W.any (.geq rfl rfl) rfl rfl rfl ?_
       refine W.nil (E.thenN ?_)
       refine WC.cond rfl (fun c6 => ?_) (fun c6 => ?_)
       ·have hqe : qh - 1 = Q2 := Nat.le_antisymm (by rw [hQ2]; exact dig_brk hY (by omega) hb1 hinv (by omega) (by omega)) (by omega)
        refine WC.exit (E.blkX rfl (E.thenX (E.blkH ?_)))
        refine E.meet () (.cons rfl (.cons rfl (.cons rfl (.cons rfl (.cons rfl (.cons rfl (.cons rfl (.cons' rfl (int_eq (by rw [hqe])) (.nil _))))))))) ?_
        exact Ll
       ·refine WC.skip (E.blkN ?_)
        refine E.again (qh - 1, rh + a) (.cons rfl (.cons rfl (.cons rfl (.cons rfl (.cons rfl (.cons rfl (.cons rfl (.cons rfl (.cons rfl (.nil _)))))))))) ?_ ?_
        ·exact ⟨Ll, hinv, by omega, by omega, by omega⟩
        ·first | omega | (simp only []; omega)
      ·have hqe : qh = Q2 := Nat.le_antisymm (by rw [hQ2]; exact dig_le hY (by omega) hi (by omega)) hq
       refine WC.exit (E.thenX (E.thenX (E.blkH ?_)))
       refine E.meet () (.cons rfl (.cons rfl (.cons rfl (.cons rfl (.cons rfl (.cons rfl (.cons rfl (.cons' rfl (int_eq (by rw [hqe])) (.nil _))))))))) ?_
       exact Ll
   ·rintro ⟨⟩ wc18 Lc18
    refine WC.seq (WC.region ?_)
    refine W.any (.move rfl) rfl rfl rfl ?_
    refine W.any (.mulN (Q1) (4294967296) (Q1 * 4294967296 % 18446744073709551616) rfl rfl rfl rfl (rfl)) rfl rfl rfl ?_
    refine W.any (.move rfl) rfl rfl rfl ?_
    refine W.any (.addN (Q1 * 4294967296 % 18446744073709551616) (Q2) ((Q1 * 4294967296 % 18446744073709551616 + Q2) % 18446744073709551616) rfl rfl rfl rfl (rfl)) rfl rfl rfl ?_
    refine W.any (.move rfl) rfl rfl rfl ?_
    refine W.any (.mulN (R) (4294967296) (R * 4294967296 % 18446744073709551616) rfl rfl rfl rfl (rfl)) rfl rfl rfl ?_
    refine W.any (.move rfl) rfl rfl rfl ?_
    refine W.any (.addN (R * 4294967296 % 18446744073709551616) (e0) ((R * 4294967296 + e0) % 18446744073709551616) rfl rfl rfl rfl (by rw [Nat.mod_add_mod])) rfl rfl rfl ?_
    refine W.any (.move rfl) rfl rfl rfl ?_
    refine W.any (.move rfl) rfl rfl rfl ?_
    refine W.any (.mulN (Q2) (Y) (Q2 * Y % 18446744073709551616) rfl rfl rfl rfl (rfl)) rfl rfl rfl ?_
    refine W.any (.subN ((R * 4294967296 + e0) % 18446744073709551616) (Q2 * Y % 18446744073709551616) ((R * 4294967296 + e0) % Y) rfl rfl rfl rfl (Nat.le_of_lt (Nat.mod_lt _ (by decide))) (dig_rest Y _ _ hQ2 (by omega) (by omega))) rfl rfl rfl ?_
    refine W.any (.move rfl) rfl rfl rfl ?_
    refine W.any (.shrE ((R * 4294967296 + e0) % Y) (3) ((h * 18446744073709551616 + l) % y) rfl rfl rfl rfl (by decide) (hfin)) rfl rfl rfl ?_
    refine W.any (.assign rfl) rfl rfl rfl ?_
    refine W.any (.assign rfl) rfl rfl rfl ?_
    refine W.nil (E.thenN (WC.ret ?_))
    refine E.ret2 rfl rfl rfl ?_
    exact ⟨_, rfl, Lc18⟩

theorem rem64_ok (h l y : Nat) (h1 : 1152921504606846976 ≤ y) (h2 : y < 4611686018427387904) (hl : l < 18446744073709551616) (w : World) : Calls Tryz.prog 86 #[.int .u64 ((h : Nat) : Int), .int .u64 ((l : Nat) : Int), .int .u64 ((y : Nat) : Int)] w fun e w' => e = .returned (.int .u64 (((h * 18446744073709551616 + l) % y : Nat) : Int)) ∧ Le w w' := by
 have hd : ∀ w, Calls Tryz.prog 98 #[.int .u64 ((h % y : Nat) : Int), .int .u64 ((l : Nat) : Int), .int .u64 ((y : Nat) : Int)] w fun e w' => ∃ qq : Int, e = .returned (.tuple #[.int .u64 qq, .int .u64 (((h * 18446744073709551616 + l) % y : Nat) : Int)]) ∧ Le w w' := fun w => by
  rw [show (h * 18446744073709551616 + l) % y = (h % y * 18446744073709551616 + l) % y by rw [Nat.add_mod (h % y * _), Nat.mul_mod (h % y), Nat.mod_mod, ← Nat.mul_mod, ← Nat.add_mod]]
  by_cases hs : y < 2305843009213693952
  ·exact div64_ok3 (h % y) l y (by omega) (by omega) (Nat.mod_lt _ (by omega)) hl w
  ·exact div64_ok2 (h % y) l y (by omega) (by omega) (Nat.mod_lt _ (by omega)) hl w
 refine enter Tryz.func86 rfl rfl ?_
 have L0 := Le.refl w
 refine WC.seq (WC.region ?_)
 refine W.any (.assign rfl) rfl rfl rfl ?_
 refine W.nil (E.thenN (WC.seq (WC.region ?_)))
 refine W.any (.move rfl) rfl rfl rfl ?_
 refine W.any (.move rfl) rfl rfl rfl ?_
 refine W.any (.remN (h) (y) (h % y) rfl rfl rfl rfl (by omega) (rfl)) rfl rfl rfl ?_
 refine W.any (.move rfl) rfl rfl rfl ?_
 refine W.any (.move rfl) rfl rfl rfl ?_
 refine W.ef rfl rfl rfl ?_
 refine Ef.call go98 rfl rfl (hd w) ?_
 rintro _ w1_5 ⟨qq, rfl, h1_5⟩
 refine ⟨_, rfl, ?_⟩
 have L1_5 := L0.trans h1_5
 refine W.any (.move rfl) rfl rfl rfl ?_
 refine W.any (.extract rfl rfl) rfl rfl rfl ?_
 refine W.any (.extract rfl rfl) rfl rfl rfl ?_
 refine W.any (.assign rfl) rfl rfl rfl ?_
 refine W.any (.assign rfl) rfl rfl rfl ?_
 refine W.nil (E.thenN (WC.seq (WC.region ?_)))
 refine W.any (.move rfl) rfl rfl rfl ?_
 refine W.any (.assign rfl) rfl rfl rfl ?_
 refine W.nil (E.thenN (WC.ret ?_))
 refine E.ret1 rfl rfl ?_
 exact ⟨rfl, L1_5⟩
end Go.Proofs.YtmgfgbplbemklaaGreat

namespace Go.Proofs.YtmgfgbplbemklaaGreat
open Go Go.Sx Go.Num
set_option maxRecDepth 20000
theorem times_ok (a b : Nat) (ha : a < 18446744073709551616) (hb : b < 18446744073709551616) (w : World) : Calls Tryz.prog 78 #[.int .u64 ((a : Nat) : Int), .int .u64 ((b : Nat) : Int)] w fun e w' => e = .returned (.int .u64 ((a * b % M : Nat) : Int)) ∧ Le w w' := by
 refine enter Tryz.func78 rfl rfl ?_
 have L0 := Le.refl w
 refine WC.seq (WC.region ?_)
 refine W.any (.assign rfl) rfl rfl rfl ?_
 refine W.nil (E.thenN (WC.seq (WC.region ?_)))
 refine W.any (.move rfl) rfl rfl rfl ?_
 refine W.any (.move rfl) rfl rfl rfl ?_
 refine W.ef rfl rfl rfl ?_
 refine Ef.call go85 rfl rfl (mul64_ok a b ha hb w) ?_
 rintro _ w1_2 ⟨rfl, h1_2⟩
 refine ⟨_, rfl, ?_⟩
 have L1_2 := L0.trans h1_2
 refine W.any (.move rfl) rfl rfl rfl ?_
 refine W.any (.extract rfl rfl) rfl rfl rfl ?_
 refine W.any (.extract rfl rfl) rfl rfl rfl ?_
 refine W.any (.assign rfl) rfl rfl rfl ?_
 refine W.any (.assign rfl) rfl rfl rfl ?_
 refine W.nil (E.thenN (WC.seq (WC.region ?_)))
 refine W.any (.move rfl) rfl rfl rfl ?_
 refine W.any (.move rfl) rfl rfl rfl ?_
 refine W.ef rfl rfl rfl ?_
 refine Ef.call go86 rfl rfl (rem64_ok (a * b / 18446744073709551616) (a * b % 18446744073709551616) 4611686018427377339 (by decide) (by decide) (Nat.mod_lt _ (by decide)) w1_2) ?_
 rintro _ w2_2 ⟨rfl, h2_2⟩
 refine ⟨_, rfl, ?_⟩
 have L2_2 := L1_2.trans h2_2
 refine W.any (.assign rfl) rfl rfl rfl ?_
 refine W.nil (E.thenN (WC.ret ?_))
 refine E.ret1 rfl rfl ?_
 exact ⟨by rw [Nat.div_add_mod']; rfl, L2_2⟩



theorem power_ok (a n : Nat) (ha : a < 18446744073709551616) (hn : n < 18446744073709551616) (w : World) : Calls Tryz.prog 69 #[.int .u64 ((a : Nat) : Int), .int .u64 ((n : Nat) : Int)] w fun e w' => e = .returned (.int .u64 ((pw a n : Nat) : Int)) ∧ Le w w' := by
 refine enter Tryz.func69 rfl rfl ?_
 have L0 := Le.refl w
 refine WC.seq (WC.region ?_)
 refine W.any (.assign rfl) rfl rfl rfl ?_
 refine W.nil (E.thenN (WC.seq (WC.region ?_)))
 refine W.any (.assign rfl) rfl rfl rfl ?_
 refine W.nil (E.thenN (WC.seq (WC.block ?_)))
 refine WC.loop (ι := Nat × Nat × Nat) (fun ⟨b, m, out⟩ => [(0, .int .u64 ((b : Nat) : Int)), (1, .int .u64 ((m : Nat) : Int)), (5, .int .u64 ((out : Nat) : Int))]) (fun ⟨b, m, out⟩ wl => Le w wl ∧ b < 18446744073709551616 ∧ m < 18446744073709551616 ∧ out < M ∧ out * b ^ m % M = pw a n) (fun ⟨b, m, out⟩ => m) (a, n, 1) ?_ ?_ ?_
 ·exact .cons rfl (.cons rfl (.cons rfl (.nil _)))
 ·exact ⟨L0, ha, hn, M_one, pw_start a n hn⟩
 ·rintro ⟨b, m, out⟩ wl ⟨Ll, hb, hm, ho, hi⟩
  refine WC.seq (WC.seq (WC.region ?_))
  refine W.any (.move rfl) rfl rfl rfl ?_
  refine W.any (.gtr rfl rfl) rfl rfl rfl ?_
  refine W.nil (E.thenN ?_)
  refine WC.cond rfl (fun c0 => ?_) (fun c0 => ?_)
  ·have hbb : b * b % M < 18446744073709551616 := Nat.lt_trans (Nat.mod_lt _ (by decide)) (by decide)
   have ho2 : out < 18446744073709551616 := Nat.lt_trans ho (by decide)
   refine WC.skip (E.thenN (WC.seq (WC.block (WC.seq (WC.seq (WC.region ?_))))))
   refine W.any (.move rfl) rfl rfl rfl ?_
   refine W.any (.andE (m) (1) (m % 2) rfl rfl rfl rfl (by omega) (by omega) (mask1 _)) rfl rfl rfl ?_
   refine W.any (.eql rfl rfl) rfl rfl rfl ?_
   refine W.nil (E.thenN ?_)
   refine WC.cond rfl (fun c1 => ?_) (fun c1 => ?_)
   ·refine WC.region ?_
    refine W.any (.move rfl) rfl rfl rfl ?_
    refine W.any (.move rfl) rfl rfl rfl ?_
    refine W.ef rfl rfl rfl ?_
    refine Ef.call go78 rfl rfl (times_ok out b ho2 hb wl) ?_
    rintro _ w5_2 ⟨rfl, h5_2⟩
    refine ⟨_, rfl, ?_⟩
    have L5_2 := Ll.trans h5_2
    refine W.any (.assign rfl) rfl rfl rfl ?_
    refine W.nil (E.thenN (WC.region ?_))
    refine W.any (.move rfl) rfl rfl rfl ?_
    refine W.any (.move rfl) rfl rfl rfl ?_
    refine W.ef rfl rfl rfl ?_
    refine Ef.call go78 rfl rfl (times_ok b b hb hb w5_2) ?_
    rintro _ w6_2 ⟨rfl, h6_2⟩
    refine ⟨_, rfl, ?_⟩
    have L6_2 := L5_2.trans h6_2
    refine W.any (.assign rfl) rfl rfl rfl ?_
    refine W.nil (E.blkN (E.thenN (WC.region ?_)))
    refine W.any (.move rfl) rfl rfl rfl ?_
    refine W.any (.shrE (m) (1) (m / 2) rfl rfl rfl rfl (by decide) (rfl)) rfl rfl rfl ?_
    refine W.any (.assign rfl) rfl rfl rfl ?_
    refine W.nil ?_
    refine E.again (b * b % M, m / 2, out * b % M) (.cons rfl (.cons rfl (.cons rfl (.nil _)))) ?_ ?_
    ·exact ⟨L6_2, hbb, by omega, Nat.mod_lt _ (by decide), by rw [step1 b m out (by omega)]; exact hi⟩
    ·first | omega | (simp only []; omega)
   ·refine WC.skip (E.thenN (WC.region ?_))
    refine W.any (.move rfl) rfl rfl rfl ?_
    refine W.any (.move rfl) rfl rfl rfl ?_
    refine W.ef rfl rfl rfl ?_
    refine Ef.call go78 rfl rfl (times_ok b b hb hb wl) ?_
    rintro _ w6_2 ⟨rfl, h6_2⟩
    refine ⟨_, rfl, ?_⟩
    have L6_2 := Ll.trans h6_2
    refine W.any (.assign rfl) rfl rfl rfl ?_
    refine W.nil (E.blkN (E.thenN (WC.region ?_)))
    refine W.any (.move rfl) rfl rfl rfl ?_
    refine W.any (.shrE (m) (1) (m / 2) rfl rfl rfl rfl (by decide) (rfl)) rfl rfl rfl ?_
    refine W.any (.assign rfl) rfl rfl rfl ?_
    refine W.nil ?_
    refine E.again (b * b % M, m / 2, out) (.cons rfl (.cons rfl (.cons rfl (.nil _)))) ?_ ?_
    ·exact ⟨L6_2, hbb, by omega, ho, by rw [step0 b m out (by omega)]; exact hi⟩
    ·first | omega | (simp only []; omega)
  ·have hm0 : m = 0 := by omega
   subst hm0
   rw [pw_end b out ho] at hi
   refine WC.exit (E.thenX (E.thenX (E.blkH (E.thenN (WC.seq (WC.region ?_))))))
   refine W.any (.move rfl) rfl rfl rfl ?_
   refine W.any (.assign rfl) rfl rfl rfl ?_
   refine W.nil (E.thenN (WC.ret ?_))
   refine E.ret1 rfl rfl ?_
   exact ⟨by rw [hi], Ll⟩

theorem dec1 (x : Nat) : decide ((x : Int) = 1) = decide (x = 1) := decide_eq_decide.2 (by omega)

theorem pright_ok (p : Nat) (hp : p < 18446744073709551616) (w : World) : Calls Tryz.prog 47 #[.int .u64 ((p : Nat) : Int)] w fun e w' => e = .returned (.bool (right p)) ∧ Le w w' := by
 refine enter Tryz.func47 rfl rfl ?_
 have L0 := Le.refl w
 refine WC.seq (WC.region ?_)
 refine W.any (.assign rfl) rfl rfl rfl ?_
 refine W.nil (E.thenN (WC.seq (WC.region ?_)))
 refine W.any (.move rfl) rfl rfl rfl ?_
 by_cases h0 : 0 < p
 ·refine W.any (.dec (.gtr rfl rfl) (decide_eq_true (by omega))) rfl rfl rfl ?_
  refine W.any (.move rfl) rfl rfl rfl ?_
  refine W.rdg (Any.rd (.move rfl) _) rfl rfl rfl (rfl) rfl rfl ?_
  by_cases h1 : p < 4611686018427377339
  ·refine W.rdg (Any.rd (.dec (.lss rfl rfl) (decide_eq_true (by omega))) _) rfl rfl rfl (rfl) rfl rfl ?_
   refine W.any (.pickT rfl rfl rfl) rfl rfl rfl ?_
   refine W.any (.move rfl) rfl rfl rfl ?_
   refine W.rdg (Any.rd (.move rfl) _) rfl rfl rfl (rfl) rfl rfl ?_
   refine W.efg rfl rfl rfl (rfl) rfl rfl ?_
   refine Ef.call go69 rfl rfl (power_ok p 2305843009213688669 hp (by decide) w) ?_
   rintro _ w1_8 ⟨rfl, h1_8⟩
   refine ⟨_, rfl, ?_⟩
   have L1_8 := L0.trans h1_8
   refine W.rdg (Any.rd (.eql rfl rfl) _) rfl rfl rfl (rfl) rfl rfl ?_
   refine W.any (.pickT rfl rfl rfl) rfl rfl rfl ?_
   refine W.any (.assign rfl) rfl rfl rfl ?_
   refine W.nil (E.thenN (WC.ret ?_))
   refine E.ret1 rfl rfl ?_
   exact ⟨by rw [right, decide_eq_true h0, decide_eq_true (show p < M from h1), Bool.true_and, Bool.true_and, ← dec1]; rfl, L1_8⟩
  ·refine W.rdg (Any.rd (.dec (.lss rfl rfl) (decide_eq_false (by omega))) _) rfl rfl rfl (rfl) rfl rfl ?_
   refine W.any (.pickT rfl rfl rfl) rfl rfl rfl ?_
   refine W.any (.move rfl) rfl rfl rfl ?_
   refine W.skip rfl rfl rfl (rfl) rfl rfl ?_
   refine W.skip rfl rfl rfl (rfl) rfl rfl ?_
   refine W.skip rfl rfl rfl (rfl) rfl rfl ?_
   refine W.any (.pickF rfl rfl rfl) rfl rfl rfl ?_
   refine W.any (.assign rfl) rfl rfl rfl ?_
   refine W.nil (E.thenN (WC.ret ?_))
   refine E.ret1 rfl rfl ?_
   exact ⟨by rw [right, decide_eq_false (show ¬ p < M from h1), Bool.and_false, Bool.false_and], L0⟩
 ·refine W.any (.dec (.gtr rfl rfl) (decide_eq_false (by omega))) rfl rfl rfl ?_
  refine W.any (.move rfl) rfl rfl rfl ?_
  refine W.skip rfl rfl rfl (rfl) rfl rfl ?_
  refine W.skip rfl rfl rfl (rfl) rfl rfl ?_
  refine W.any (.pickF rfl rfl rfl) rfl rfl rfl ?_
  refine W.any (.move rfl) rfl rfl rfl ?_
  refine W.skip rfl rfl rfl (rfl) rfl rfl ?_
  refine W.skip rfl rfl rfl (rfl) rfl rfl ?_
  refine W.skip rfl rfl rfl (rfl) rfl rfl ?_
  refine W.any (.pickF rfl rfl rfl) rfl rfl rfl ?_
  refine W.any (.assign rfl) rfl rfl rfl ?_
  refine W.nil (E.thenN (WC.ret ?_))
  refine E.ret1 rfl rfl ?_
  exact ⟨by rw [right, decide_eq_false h0, Bool.false_and, Bool.false_and], L0⟩

theorem taken_ok (p : Nat) (hp : p < 18446744073709551616) (w : World) : Calls Tryz.prog 79 #[.int .u64 ((p : Nat) : Int)] w fun e w' => e = .returned (.int .u64 ((taken p : Nat) : Int)) ∧ Le w w' := by
 refine enter Tryz.func79 rfl rfl ?_
 have L0 := Le.refl w
 refine WC.seq (WC.region ?_)
 refine W.any (.assign rfl) rfl rfl rfl ?_
 refine W.nil (E.thenN (WC.seq (WC.seq (WC.region ?_))))
 refine W.any (.move rfl) rfl rfl rfl ?_
 refine W.ef rfl rfl rfl ?_
 refine Ef.call go47 rfl rfl (pright_ok p hp w) ?_
 rintro _ w1_1 ⟨rfl, h1_1⟩
 refine ⟨_, rfl, ?_⟩
 have L1_1 := L0.trans h1_1
 refine W.nil (E.thenN ?_)
 refine WC.condB rfl (fun c0 => ?_) (fun c0 => ?_)
 ·refine WC.seq (WC.region ?_)
  refine W.any (.move rfl) rfl rfl rfl ?_
  refine W.any (.assign rfl) rfl rfl rfl ?_
  refine W.nil (E.thenN (WC.ret (E.thenR ?_)))
  refine E.ret1 rfl rfl ?_
  exact ⟨by rw [taken, if_pos c0], L1_1⟩
 ·refine WC.skip (E.thenN (WC.seq (WC.region ?_)))
  refine W.any (.assign rfl) rfl rfl rfl ?_
  refine W.nil (E.thenN (WC.ret ?_))
  refine E.ret1 rfl rfl ?_
  exact ⟨by rw [taken, if_neg (by rw [c0]; simp)]; rfl, L1_1⟩

theorem taken_lt (p : Nat) : taken p < 18446744073709551616 := Nat.lt_trans ((right_iff _).1 (right_taken p)).2.1 (by decide)

theorem scale_ok (p k : Nat) (hp : p < 18446744073709551616) (w : World) : Calls Tryz.prog 70 #[.int .u64 ((p : Nat) : Int), .int .u64 ((k : Nat) : Int)] w fun e w' => e = .returned (.int .u64 ((scale p k : Nat) : Int)) ∧ Le w w' := by
 refine enter Tryz.func70 rfl rfl ?_
 have L0 := Le.refl w
 refine WC.seq (WC.region ?_)
 refine W.any (.assign rfl) rfl rfl rfl ?_
 refine W.nil (E.thenN (WC.seq (WC.region ?_)))
 refine W.any (.move rfl) rfl rfl rfl ?_
 refine W.ef rfl rfl rfl ?_
 refine Ef.call go79 rfl rfl (taken_ok p hp w) ?_
 rintro _ w1_1 ⟨rfl, h1_1⟩
 refine ⟨_, rfl, ?_⟩
 have L1_1 := L0.trans h1_1
 refine W.any (.move rfl) rfl rfl rfl ?_
 refine W.any (.remN (k) (2305843009213688669) (k % 2305843009213688669) rfl rfl rfl rfl (by decide) (rfl)) rfl rfl rfl ?_
 refine W.ef rfl rfl rfl ?_
 refine Ef.call go69 rfl rfl (power_ok (taken p) (k % 2305843009213688669) (taken_lt p) (by omega) w1_1) ?_
 rintro _ w1_4 ⟨rfl, h1_4⟩
 refine ⟨_, rfl, ?_⟩
 have L1_4 := L1_1.trans h1_4
 refine W.any (.assign rfl) rfl rfl rfl ?_
 refine W.nil (E.thenN (WC.ret ?_))
 refine E.ret1 rfl rfl ?_
 exact ⟨rfl, L1_4⟩

theorem base_ok (k : Nat) (w : World) : Calls Tryz.prog 49 #[.int .u64 ((k : Nat) : Int)] w fun e w' => e = .returned (.int .u64 ((base k : Nat) : Int)) ∧ Le w w' := by
 refine enter Tryz.func49 rfl rfl ?_
 have L0 := Le.refl w
 refine WC.seq (WC.region ?_)
 refine W.any (.assign rfl) rfl rfl rfl ?_
 refine W.nil (E.thenN (WC.seq (WC.region ?_)))
 refine W.any (.move rfl) rfl rfl rfl ?_
 refine W.ef rfl rfl rfl ?_
 refine Ef.call go70 rfl rfl (scale_ok 4 k (by decide) w) ?_
 rintro _ w1_1 ⟨rfl, h1_1⟩
 refine ⟨_, rfl, ?_⟩
 have L1_1 := L0.trans h1_1
 refine W.any (.assign rfl) rfl rfl rfl ?_
 refine W.nil (E.thenN (WC.ret ?_))
 refine E.ret1 rfl rfl ?_
 exact ⟨rfl, L1_1⟩














end Go.Proofs.YtmgfgbplbemklaaGreat

namespace Go.Proofs.YtmgfgbplbemklaaGreat
open Go Go.Sx Go.Num Go.Gsp Go.Lsp
set_option maxRecDepth 20000
set_option linter.unusedSimpArgs false
set_option linter.unusedVariables false
def seatV (s : Seat) : List Value := [.int .i64 s.ch, .int .i64 s.p0, .int .i64 s.p1, .int .i64 s.h0, .int .i64 s.h1]
theorem seatV_row : RowF seatV 5 := ⟨fun _ => rfl, fun x v hv => by simp [seatV] at hv; rcases hv with rfl | rfl | rfl | rfl | rfl <;> rfl, by decide⟩
def holdV (h : Hold) : List Value := [.int .i64 h.am, .int .u64 ((h.pt : Nat) : Int)]
theorem holdV_row : RowF holdV 2 := ⟨fun _ => rfl, fun x v hv => by simp [holdV] at hv; rcases hv with rfl | rfl <;> rfl, by decide⟩
def placeV (k : Spot) : List Value := [.int .i64 k.ch, .int .i64 k.side, .int .i64 k.id]
theorem placeV_row : RowF placeV 3 := ⟨fun _ => rfl, fun x v hv => by simp [placeV] at hv; rcases hv with rfl | rfl | rfl <;> rfl, by decide⟩
def legV (g : Leg) : List Value := [.int .i64 g.ch, .int .i64 g.side, .int .i64 g.am]
theorem legV_row : RowF legV 3 := ⟨fun _ => rfl, fun x v hv => by simp [legV] at hv; rcases hv with rfl | rfl | rfl <;> rfl, by decide⟩
theorem seatP_at (s : Seat) {j : Nat} (h : j < 2) : (seatV s).toArray[1 + j]? = some (.int .i64 (s.p j)) := by
  have : j = 0 ∨ j = 1 := by omega
  rcases this with rfl | rfl <;> rfl
theorem seatH_at (s : Seat) {j : Nat} (h : j < 2) : (seatV s).toArray[3 + j]? = some (.int .i64 (s.h j)) := by
  have : j = 0 ∨ j = 1 := by omega
  rcases this with rfl | rfl <;> rfl
theorem seatP_ix (s : Seat) {j : Nat} (h : j < 2) : #[Value.int .i64 s.p0, .int .i64 s.p1][j]? = some (.int .i64 (s.p j)) := by
  have : j = 0 ∨ j = 1 := by omega
  rcases this with rfl | rfl <;> rfl
theorem seatH_set (s : Seat) (v : Int) {j : Nat} (h : j < 2) : (seatV s).toArray.setIfInBounds (3 + j) (.int .i64 v) = (seatV (s.setH j v)).toArray := by
  have : j = 0 ∨ j = 1 := by omega
  rcases this with rfl | rfl <;> rfl
def ikf (x : Int) : Value := .int .i64 x
def plf (k : Spot) : Value := .agg (placeV k).toArray
def seatf (s : Seat) : Value := .agg (seatV s).toArray
def holdf (h : Hold) : Value := .agg (holdV h).toArray
theorem kint : KeyG Tryz.prog 3 ikf := KeyG.int Tryz.underlying3
theorem eqv_placeV {d : Nat} (a b : Spot) : Eqv Tryz.prog (d + 2) 84 (.agg (placeV a).toArray) (.agg (placeV b).toArray) (decide (a = b)) := by
  have h := Eqv.ints (P := Tryz.prog) (d := d) (t := 84) (placeV a) (placeV b) [(.i64, 0), (.i64, 1), (.i64, 2)] (by kernel_rfl) (by kernel_rfl) (by
    rw [show (Tryz.prog.fieldsOf 84) = _ from (by unfold Program.fieldsOf; rw [Tryz.underlying84])]
    exact ⟨by decide, rfl, Tryz.underlying3, ⟨_, _, rfl, rfl⟩, by decide, rfl, Tryz.underlying3, ⟨_, _, rfl, rfl⟩, by decide, rfl, Tryz.underlying3, ⟨_, _, rfl, rfl⟩, trivial⟩)
  have e : eqAll (placeV a) (placeV b) [(.i64, 0), (.i64, 1), (.i64, 2)] = decide (a = b) := by
    obtain ⟨a0, a1, a2⟩ := a
    obtain ⟨b0, b1, b2⟩ := b
    simp only [eqAll, placeV, List.getElem?_cons_zero, List.getElem?_cons_succ]
    rw [Bool.eq_iff_iff]
    simp only [Bool.and_eq_true, decide_eq_true_eq, Bool.and_true, Spot.mk.injEq]
  rw [e] at h
  exact h
theorem check_place (b : Bool) (k : Spot) (w : World) : ∀ m : Nat, (Instr.checkKey b (m + 2) 84 (plf k)).run Tryz.prog w = .ok () w := by
  intro m
  have hi : ∀ (v : Int) (w : World), (Instr.checkKey b (m + 1) 3 (.int .i64 v)).run Tryz.prog w = .ok () w := fun v w => by unfold Instr.checkKey; simp [run_underlying Tryz.underlying3]
  have p0 : ∀ w : World, (part 3 (placeV k).toArray 0).run Tryz.prog w = .ok (.int .i64 k.ch) w := run_part1 na3 rfl
  have p1 : ∀ w : World, (part 3 (placeV k).toArray 1).run Tryz.prog w = .ok (.int .i64 k.side) w := run_part1 na3 rfl
  have p2 : ∀ w : World, (part 3 (placeV k).toArray 2).run Tryz.prog w = .ok (.int .i64 k.id) w := run_part1 na3 rfl
  unfold Instr.checkKey
  simp only [Sem.run_bind, run_underlying Tryz.underlying84, Result.andThen_ok, plf]
  simp [p0, p1, p2, hi]
theorem kplace : KeyG Tryz.prog 84 plf := KeyG.struct Tryz.underlying84 (fun b k w => check_place b k w 9998) (fun k => ⟨_, rfl⟩) (fun a b => eqv_placeV (d := 9998) a b)
theorem sumF_uns {κ β : Type} [DecidableEq κ] {f : κ → β → Int} {seen : Array Nat} : ∀ {l : List (Nat × κ × β)}, (∀ x ∈ l, 0 ≤ f x.2.1 x.2.2) → 0 ≤ sumF f (unsG l seen) ∧ sumF f (unsG l seen) ≤ sumF f l
  | [], _ => by simp [unsG, sumF]
  | x :: l, h => by
    have h1 := sumF_uns (f := f) (seen := seen) (l := l) (fun y hy => h y (List.mem_cons_of_mem _ hy))
    have h2 := h x List.mem_cons_self
    unfold unsG at *
    rw [List.filter_cons]
    split
    · rw [sumF_cons, sumF_cons]; omega
    · rw [sumF_cons]; omega
theorem heldF_nn {ch side : Int} {lh : HM} (hb : ∀ x ∈ lh, 0 ≤ x.2.2.am) : ∀ x ∈ lh, 0 ≤ heldF ch side x.2.1 x.2.2 := by
  intro x hx
  unfold heldF
  split
  · exact hb x hx
  · exact Int.le_refl _
/-- A ledger that lies in memory. -/
structure LedL (w : World) (gp gs gh : Nat) (A : Option Addr) (c cs ck : Nat) (own : List Int) (ls : SM) (lh : HM) (lost : Int) : Prop where
  hp : Blk w gp 66 #[.slice A own.length c, .map (some gs), .map (some gh), .int .i64 lost]
  hO : OVec w 0 3 iv 1 A own.length c own
  hS : MapG w ikf seatf gs ls cs
  hH : MapG w plf holdf gh lh ck
  ps : gp ≠ gs
  ph : gp ≠ gh
  sh : gs ≠ gh
  op : rowOf A c ≠ some gp
  os : rowOf A c ≠ some gs
  oh : rowOf A c ≠ some gh
def LF (gp gs gh : Nat) (A : Option Addr) (c : Nat) (k : Nat) : Prop := k = gp ∨ k = gs ∨ k = gh ∨ rowOf A c = some k
section
variable {w w' : World} {gp gs gh c cs ck : Nat} {A : Option Addr} {own : List Int} {ls : SM} {lh : HM} {lost : Int}
theorem LedL.chP {F' : Nat → Prop} (h : LedL w gp gs gh A c cs ck own ls lh lost) (hc : ChP w w' F') (hne : ∀ k, LF gp gs gh A c k → ¬ F' k) : LedL w' gp gs gh A c cs ck own ls lh lost :=
  ⟨h.hp.chP hc (hne _ (.inl rfl)), h.hO.chP hc (fun k hk => hne _ (.inr (.inr (.inr hk)))), h.hS.chP hc (hne _ (.inr (.inl rfl))), h.hH.chP hc (hne _ (.inr (.inr (.inl rfl)))), h.ps, h.ph, h.sh, h.op, h.os, h.oh⟩
theorem LedL.le (h : LedL w gp gs gh A c cs ck own ls lh lost) (hl : Le w w') : LedL w' gp gs gh A c cs ck own ls lh lost := h.chP (hl.chP (fun _ => False)) (fun _ _ hf => hf)
theorem LedL.lt (h : LedL w gp gs gh A c cs ck own ls lh lost) {k : Nat} (hk : LF gp gs gh A c k) : k < w.heap.size := by
  rcases hk with rfl | rfl | rfl | hk
  · exact h.hp.lt
  · exact h.hS.lt
  · exact h.hH.lt
  · exact (h.hO.row hk).2
end
theorem coin_ok (n : Int) (w : World) : Calls Tryz.prog 45 #[.int .i64 (n)] w fun r w' => r = .returned (.bool (coinL n)) ∧ Le w w' := by
 refine enter Tryz.func45 rfl rfl ?_
 have L0 := Le.refl w
 refine WC.seq (WC.region ?_)
 refine W.any (.assign rfl) rfl rfl rfl ?_
 refine W.nil (E.thenN (WC.seq (WC.region ?_)))
 refine W.any (.move rfl) rfl rfl rfl ?_
 refine W.any (.geq rfl rfl) rfl rfl rfl ?_
 by_cases q1_2 : 0 ≤ n
 ·refine W.any (.dec (.move rfl) (decide_eq_true q1_2)) rfl rfl rfl ?_
  refine W.rdg (Any.rd (.move rfl) _) rfl rfl rfl (rfl) rfl rfl ?_
  refine W.rdg (Any.rd (.leq rfl rfl) _) rfl rfl rfl (rfl) rfl rfl ?_
  refine W.any (.pickT rfl rfl rfl) rfl rfl rfl ?_
  refine W.any (.assign rfl) rfl rfl rfl ?_
  refine W.nil (E.thenN (WC.ret ?_))
  refine E.retG1 rfl rfl ?_
  exact ⟨congrArg (fun b => Ending.returned (Value.bool b)) (by simp [coinL, q1_2]), L0⟩
 ·refine W.any (.dec (.move rfl) (decide_eq_false q1_2)) rfl rfl rfl ?_
  refine W.skip rfl rfl rfl (rfl) rfl rfl ?_
  refine W.skip rfl rfl rfl (rfl) rfl rfl ?_
  refine W.any (.pickF rfl rfl rfl) rfl rfl rfl ?_
  refine W.any (.assign rfl) rfl rfl rfl ?_
  refine W.nil (E.thenN (WC.ret ?_))
  refine E.retG1 rfl rfl ?_
  exact ⟨congrArg (fun b => Ending.returned (Value.bool b)) (by simp [coinL, q1_2]), L0⟩

theorem lost_ok {gp gs gh c cs ck : Nat} {A : Option Addr} {own : List Int} {ls : SM} {lh : HM} {lost : Int} (w : World) (hL : LedL w gp gs gh A c cs ck own ls lh lost) : Calls Tryz.prog 25 #[.pointer (some ⟨gp, 0, none⟩)] w fun r w' => r = .returned (.int .i64 lost) ∧ Le w w' := by
 refine enter Tryz.func25 rfl rfl ?_
 have L0 := Le.refl w
 refine WC.seq (WC.region ?_)
 refine W.any (.assign rfl) rfl rfl rfl ?_
 refine W.nil (E.thenN (WC.seq (WC.region ?_)))
 refine W.any (.move rfl) rfl rfl rfl ?_
 refine W.any (.nilCheck rfl) rfl rfl rfl ?_
 refine W.any (.field0 fa66_3 rfl) rfl rfl rfl ?_
 refine W.rd (.loadB (v := .int .i64 (lost)) na3 rfl (hL.hp.le L0) rfl) rfl rfl rfl ?_
 refine W.any (.assign rfl) rfl rfl rfl ?_
 refine W.nil (E.thenN (WC.ret ?_))
 refine E.retG1 rfl rfl ?_
 exact ⟨rfl, L0⟩

theorem lown_ok {gp gs gh c cs ck : Nat} {A : Option Addr} {own : List Int} {ls : SM} {lh : HM} {lost : Int} (party : Int) (w : World) (hL : LedL w gp gs gh A c cs ck own ls lh lost) : Calls Tryz.prog 12 #[.pointer (some ⟨gp, 0, none⟩), .int .i64 (party)] w fun r w' => r = .returned (.int .i64 (ownL own party)) ∧ Le w w' := by
 refine enter Tryz.func12 rfl rfl ?_
 have L0 := Le.refl w
 refine WC.seq (WC.region ?_)
 refine W.any (.assign rfl) rfl rfl rfl ?_
 refine W.nil (E.thenN (WC.seq (WC.seq (WC.region ?_))))
 refine W.any (.move rfl) rfl rfl rfl ?_
 refine W.any (.lss rfl rfl) rfl rfl rfl ?_
 by_cases q1_2 : party < 0
 ·refine W.any (.dec (.move rfl) (decide_eq_true q1_2)) rfl rfl rfl ?_
  refine W.skip rfl rfl rfl (rfl) rfl rfl ?_
  refine W.skip rfl rfl rfl (rfl) rfl rfl ?_
  refine W.skip rfl rfl rfl (rfl) rfl rfl ?_
  refine W.skip rfl rfl rfl (rfl) rfl rfl ?_
  refine W.skip rfl rfl rfl (rfl) rfl rfl ?_
  refine W.skip rfl rfl rfl (rfl) rfl rfl ?_
  refine W.skip rfl rfl rfl (rfl) rfl rfl ?_
  refine W.any (.pickT rfl rfl rfl) rfl rfl rfl ?_
  refine W.nil (E.thenN ?_)
  refine WC.condT rfl ?_
  refine WC.seq (WC.region ?_)
  refine W.any (.assign rfl) rfl rfl rfl ?_
  refine W.nil (E.thenN (WC.ret (E.thenR ?_)))
  refine E.retG1 rfl rfl ?_
  exact ⟨congrArg (fun b => Ending.returned (Value.int .i64 b)) (by unfold ownL; first | (rw [if_pos (by omega)]) | (rw [if_neg (by omega)])), L0⟩
 ·refine W.any (.dec (.move rfl) (decide_eq_false q1_2)) rfl rfl rfl ?_
  refine W.rdg (Any.rd (.move rfl) _) rfl rfl rfl (rfl) rfl rfl ?_
  refine W.rdg (Any.rd (.move rfl) _) rfl rfl rfl (rfl) rfl rfl ?_
  refine W.rdg (Any.rd (.nilCheck rfl) _) rfl rfl rfl (rfl) rfl rfl ?_
  refine W.rdg (Any.rd (.field0 fa66_0 rfl) _) rfl rfl rfl (rfl) rfl rfl ?_
  refine W.rdg (.loadB (v := .slice A own.length c) na22 rfl (hL.hp.le L0) rfl) rfl rfl rfl (rfl) rfl rfl ?_
  refine W.rdg (.len Tryz.underlying22 rfl) rfl rfl rfl (rfl) rfl rfl ?_
  refine W.rdg (Any.rd (.geq rfl rfl) _) rfl rfl rfl (rfl) rfl rfl ?_
  refine W.any (.pickF rfl rfl rfl) rfl rfl rfl ?_
  refine W.nil (E.thenN ?_)
  by_cases c0 : ((own.length : Nat) : Int) ≤ party
  ·refine WC.condY rfl (decide_eq_true c0) ?_
   refine WC.seq (WC.region ?_)
   refine W.any (.assign rfl) rfl rfl rfl ?_
   refine W.nil (E.thenN (WC.ret (E.thenR ?_)))
   refine E.retG1 rfl rfl ?_
   exact ⟨congrArg (fun b => Ending.returned (Value.int .i64 b)) (by unfold ownL; first | (rw [if_pos (by omega)]) | (rw [if_neg (by omega)])), L0⟩
  ·refine WC.condN rfl (decide_eq_false c0) ?_
   refine WC.skip (E.thenN (WC.seq (WC.region ?_)))
   refine W.any (.move rfl) rfl rfl rfl ?_
   refine W.any (.nilCheck rfl) rfl rfl rfl ?_
   refine W.any (.field0 fa66_0 rfl) rfl rfl rfl ?_
   refine W.rd (.loadB (v := .slice A own.length c) na22 rfl (hL.hp.le L0) rfl) rfl rfl rfl ?_
   refine W.any (.move rfl) rfl rfl rfl ?_
   refine W.any (.idxS ((party).toNat) Tryz.underlying22 sz3 rfl rfl (hL.hO.vec.isSome iv_row (by omega)) (by omega) (by omega)) rfl rfl rfl ?_
   refine W.rd (.vone (v := .int .i64 ((own.getD ((party).toNat) 0))) na3 rfl (hL.hO.vec.le L0) iv_row (getS own 0 (by first | omega | (simp only [List.length_cons, List.length_nil]; omega))) rfl) rfl rfl rfl ?_
   refine W.any (.assign rfl) rfl rfl rfl ?_
   refine W.nil (E.thenN (WC.ret ?_))
   refine E.retG1 rfl rfl ?_
   exact ⟨congrArg (fun b => Ending.returned (Value.int .i64 b)) (by unfold ownL; first | (rw [if_pos (by omega)]) | (rw [if_neg (by omega)])), L0⟩

theorem lseat_ok {gp gs gh c cs ck : Nat} {A : Option Addr} {own : List Int} {ls : SM} {lh : HM} {lost : Int} (ch : Int) (w : World) (hL : LedL w gp gs gh A c cs ck own ls lh lost) : Calls Tryz.prog 22 #[.pointer (some ⟨gp, 0, none⟩), .int .i64 (ch)] w fun r w' => r = .returned (.tuple #[.agg (seatV ((getG ch ls).getD noSeat)).toArray, .bool (getG ch ls).isSome]) ∧ Le w w' := by
 refine enter Tryz.func22 rfl rfl ?_
 have L0 := Le.refl w
 refine WC.seq (WC.region ?_)
 refine W.ef rfl rfl rfl ?_
 refine Ef.allocA z44 ?_
 intro g0_0 w0_0 hg0_0 b0_0 h0_0
 have L1 := L0.trans h0_0
 have b0_0 : Blk w0_0 g0_0 44 (seatV noSeat).toArray := b0_0
 refine W.any (.assign rfl) rfl rfl rfl ?_
 refine W.nil (E.thenN (WC.seq (WC.region ?_)))
 refine W.any (.move rfl) rfl rfl rfl ?_
 refine W.any (.nilCheck rfl) rfl rfl rfl ?_
 refine W.any (.field0 fa66_1 rfl) rfl rfl rfl ?_
 refine W.rd (.loadB (v := .map (some gs)) na63 rfl (hL.hp.le L1) rfl) rfl rfl rfl ?_
 refine W.any (.move rfl) rfl rfl rfl ?_
 rcases optG (getG ch ls) with hk1_5 | ⟨vhk1_5, hk1_5⟩
 ·refine W.rd (.as (.lookup2 (key := ch) Tryz.underlying63 kint z44 rfl rfl (hL.hS.le L1)) (by rw [hk1_5] <;> rfl)) rfl rfl rfl ?_
  refine W.any (.move rfl) rfl rfl rfl ?_
  refine W.any (.extract (v := .agg (seatV noSeat).toArray) rfl rfl) rfl rfl rfl ?_
  refine W.any (.extract (v := .bool false) rfl rfl) rfl rfl rfl ?_
  refine W.ef rfl rfl rfl ?_
  refine Ef.allocA z44 ?_
  intro g1_9 w1_9 hg1_9 b1_9 h1_9
  have L2 := L1.trans h1_9
  have b1_9 : Blk w1_9 g1_9 44 (seatV noSeat).toArray := b1_9
  refine W.ef0 rfl rfl ?_
  refine Ef.storeAll sz44 (by rfl) rfl rfl b1_9 (by simp only [List.size_toArray, seatV_row.len]) (seatV_row.one noSeat) ?_
  intro w1_10 b1_10 h1_10
  have b1_10 : Blk w1_10 g1_9 44 (seatV noSeat).toArray := b1_10
  have L3 : Le w w1_10 := L2.then_ h1_10 (fun q hq => by cases hq; exact Nat.le_trans L1.size hg1_9)
  refine W.any (.assign rfl) rfl rfl rfl ?_
  refine W.nil (E.thenN (WC.seq (WC.region ?_)))
  refine W.rd (.loadAll ag44 (by rfl) rfl b1_10) rfl rfl rfl ?_
  refine W.any (.move rfl) rfl rfl rfl ?_
  have f4 := ((b0_0.le h1_9).ch h1_10 (fun h => (show g1_9 ≠ g0_0 from by have := b0_0.lt; omega) (Option.some.inj h)))
  refine W.ef0 rfl rfl ?_
  refine Ef.storeAll sz44 (by rfl) rfl rfl f4 (by simp only [List.size_toArray, seatV_row.len]) (seatV_row.one noSeat) ?_
  intro w2_2 b2_2 h2_2
  have b2_2 : Blk w2_2 g0_0 44 (seatV noSeat).toArray := b2_2
  have L5 : Le w w2_2 := L3.then_ h2_2 (fun q hq => by cases hq; exact Nat.le_trans L0.size hg0_0)
  refine W.any (.assign rfl) rfl rfl rfl ?_
  refine W.nil (E.thenN (WC.ret ?_))
  refine E.retG2 rfl (resA rfl b2_2 ag44 (by rfl)) rfl ?_
  exact ⟨by rw [hk1_5]; rfl, L5⟩
 ·refine W.rd (.as (.lookup2 (key := ch) Tryz.underlying63 kint z44 rfl rfl (hL.hS.le L1)) (by rw [hk1_5] <;> rfl)) rfl rfl rfl ?_
  refine W.any (.move rfl) rfl rfl rfl ?_
  refine W.any (.extract (v := .agg (seatV vhk1_5).toArray) rfl rfl) rfl rfl rfl ?_
  refine W.any (.extract (v := .bool true) rfl rfl) rfl rfl rfl ?_
  refine W.ef rfl rfl rfl ?_
  refine Ef.allocA z44 ?_
  intro g1_9_1 w1_9_1 hg1_9_1 b1_9_1 h1_9_1
  have L6 := L1.trans h1_9_1
  have b1_9_1 : Blk w1_9_1 g1_9_1 44 (seatV noSeat).toArray := b1_9_1
  refine W.ef0 rfl rfl ?_
  refine Ef.storeAll sz44 (by rfl) rfl rfl b1_9_1 (by simp only [List.size_toArray, seatV_row.len]) (seatV_row.one vhk1_5) ?_
  intro w1_10_1 b1_10_1 h1_10_1
  have b1_10_1 : Blk w1_10_1 g1_9_1 44 (seatV vhk1_5).toArray := b1_10_1
  have L7 : Le w w1_10_1 := L6.then_ h1_10_1 (fun q hq => by cases hq; exact Nat.le_trans L1.size hg1_9_1)
  refine W.any (.assign rfl) rfl rfl rfl ?_
  refine W.nil (E.thenN (WC.seq (WC.region ?_)))
  refine W.rd (.loadAll ag44 (by rfl) rfl b1_10_1) rfl rfl rfl ?_
  refine W.any (.move rfl) rfl rfl rfl ?_
  have f8 := ((b0_0.le h1_9_1).ch h1_10_1 (fun h => (show g1_9_1 ≠ g0_0 from by have := b0_0.lt; omega) (Option.some.inj h)))
  refine W.ef0 rfl rfl ?_
  refine Ef.storeAll sz44 (by rfl) rfl rfl f8 (by simp only [List.size_toArray, seatV_row.len]) (seatV_row.one vhk1_5) ?_
  intro w2_2_1 b2_2_1 h2_2_1
  have b2_2_1 : Blk w2_2_1 g0_0 44 (seatV vhk1_5).toArray := b2_2_1
  have L9 : Le w w2_2_1 := L7.then_ h2_2_1 (fun q hq => by cases hq; exact Nat.le_trans L0.size hg0_0)
  refine W.any (.assign rfl) rfl rfl rfl ?_
  refine W.nil (E.thenN (WC.ret ?_))
  refine E.retG2 rfl (resA rfl b2_2_1 ag44 (by rfl)) rfl ?_
  exact ⟨by rw [hk1_5]; rfl, L9⟩

theorem lheld_ok {gp gs gh c cs ck : Nat} {A : Option Addr} {own : List Int} {ls : SM} {lh : HM} {lost : Int} (ch side : Int) (w : World) (hL : LedL w gp gs gh A c cs ck own ls lh lost) (hb : ∀ x ∈ lh, 0 ≤ x.2.2.am) (ht : heldL lh ch side ≤ 4611686018427387904) : Calls Tryz.prog 15 #[.pointer (some ⟨gp, 0, none⟩), .int .i64 (ch), .int .i64 (side)] w fun r w' => r = .returned (.int .i64 (heldL lh ch side)) ∧ Le w w' := by
 refine enter Tryz.func15 rfl rfl ?_
 have L0 := Le.refl w
 refine WC.seq (WC.region ?_)
 refine W.any (.assign rfl) rfl rfl rfl ?_
 refine W.nil (E.thenN (WC.seq (WC.region ?_)))
 refine W.any (.assign rfl) rfl rfl rfl ?_
 refine W.nil (E.thenN (WC.seq (WC.seq (WC.region ?_))))
 refine W.any (.move rfl) rfl rfl rfl ?_
 refine W.any (.nilCheck rfl) rfl rfl rfl ?_
 refine W.any (.field0 fa66_2 rfl) rfl rfl rfl ?_
 refine W.rd (.loadB (v := .map (some gh)) na64 rfl (hL.hp.le L0) rfl) rfl rfl rfl ?_
 refine W.ef rfl rfl rfl ?_
 refine Ef.rangeG Tryz.underlying64 rfl (hL.hH.le L0) ?_
 intro r2_4 w2_4 hg2_4 b2_4 h2_4
 have L1 := L0.trans h2_4
 refine W.nil (E.thenN (WC.block ?_))
 refine WC.loop (ι := (Array Nat)) (fun seen => [(1, .int .i64 (ch)), (2, .int .i64 (side)), (7, .int .i64 ((heldL lh ch side - sumF (heldF ch side) (unsG lh seen)))), (14, .pointer (some ⟨r2_4, 0, none⟩))]) (fun seen wl0 => Le w wl0 ∧ w2_4.heap.size ≤ wl0.heap.size ∧ ItG wl0 r2_4 gh ck seen) (fun seen => (unsG lh seen).length) (#[]) ?_ ?_ ?_
 ·exact .cons rfl (.cons rfl (.cons' rfl (int_eq (by rw [unsG_nil]; show _ = sumF _ lh - _; omega)) (.cons rfl (.nil _))))
 ·exact ⟨L1, Nat.le_refl _, b2_4⟩
 ·rintro seen wl0 ⟨Ll0, zl0, f0_0⟩
  refine WC.seq (WC.region ?_)
  refine W.ef rfl rfl rfl ?_
  refine Ef.nextG rfl (hL.hH.le Ll0) f0_0 ?_ ?_
  ·intro hu3_0
   refine W.any (.extract (v := .bool false) rfl rfl) rfl rfl rfl ?_
   refine W.nil (E.thenN (WC.seq ?_))
   refine WC.condF rfl ?_
   refine WC.exit (E.thenX (E.thenX (E.blkH (E.thenN (WC.seq (WC.region ?_))))))
   refine W.any (.move rfl) rfl rfl rfl ?_
   refine W.any (.assign rfl) rfl rfl rfl ?_
   refine W.nil (E.thenN (WC.ret ?_))
   refine E.retG1 rfl rfl ?_
   exact ⟨congrArg (fun b => Ending.returned (Value.int .i64 b)) (by rw [hu3_0, sumF_nil]; omega), Ll0⟩
  ·intro e3_0 w3_0 he3_0 b3_0 h3_0
   have L2 : Le w w3_0 := Ll0.then_ h3_0 (fun q hq => by cases hq; exact Nat.le_trans L0.size hg2_4)
   have hp3_0 := unsG_push (hL.hH.le Ll0).2 he3_0
   have hl3_0 := hp3_0.length_eq
   rw [List.length_cons] at hl3_0
   refine W.any (.extract (v := .bool true) rfl rfl) rfl rfl rfl ?_
   refine W.nil (E.thenN (WC.seq ?_))
   refine WC.condT rfl ?_
   refine WC.skip (E.thenN (WC.block (WC.seq (WC.region ?_))))
   refine W.ef rfl rfl rfl ?_
   refine Ef.entryG (e := e3_0) rfl (hL.hH.le L2) b3_0 (unsG_mem he3_0) ?_
   refine W.any (.extract (v := .agg (placeV e3_0.2.1).toArray) rfl rfl) rfl rfl rfl ?_
   refine W.any (.extract (v := .agg (holdV e3_0.2.2).toArray) rfl rfl) rfl rfl rfl ?_
   refine W.ef rfl rfl rfl ?_
   refine Ef.allocA z84 ?_
   intro g4_3 w4_3 hg4_3 b4_3 h4_3
   have L3 := L2.trans h4_3
   have b4_3 : Blk w4_3 g4_3 84 (placeV noSpot).toArray := b4_3
   refine W.ef rfl rfl rfl ?_
   refine Ef.allocA z86 ?_
   intro g4_4 w4_4 hg4_4 b4_4 h4_4
   have L4 := L3.trans h4_4
   have b4_4 : Blk w4_4 g4_4 86 (holdV noHold).toArray := b4_4
   have f5 := (b4_3.le h4_4)
   refine W.ef0 rfl rfl ?_
   refine Ef.storeAll sz84 (by rfl) rfl rfl f5 (by simp only [List.size_toArray, placeV_row.len]) (placeV_row.one e3_0.2.1) ?_
   intro w4_5 b4_5 h4_5
   have b4_5 : Blk w4_5 g4_3 84 (placeV e3_0.2.1).toArray := b4_5
   have L6 : Le w w4_5 := L4.then_ h4_5 (fun q hq => by cases hq; exact Nat.le_trans L2.size hg4_3)
   have f7 := (b4_4.ch h4_5 (fun h => (show g4_3 ≠ g4_4 from by have := b4_3.lt; omega) (Option.some.inj h)))
   refine W.ef0 rfl rfl ?_
   refine Ef.storeAll sz86 (by rfl) rfl rfl f7 (by simp only [List.size_toArray, holdV_row.len]) (holdV_row.one e3_0.2.2) ?_
   intro w4_6 b4_6 h4_6
   have b4_6 : Blk w4_6 g4_4 86 (holdV e3_0.2.2).toArray := b4_6
   have L8 : Le w w4_6 := L6.then_ h4_6 (fun q hq => by cases hq; exact Nat.le_trans L3.size hg4_4)
   refine W.nil (E.thenN (WC.seq (WC.region ?_)))
   refine W.any (.field0 fa84_0 rfl) rfl rfl rfl ?_
   have f9 := (b4_5.ch h4_6 (fun h => (show g4_4 ≠ g4_3 from by have := b4_3.lt; omega) (Option.some.inj h)))
   refine W.rd (.loadB (v := .int .i64 (e3_0.2.1.ch)) na3 rfl f9 rfl) rfl rfl rfl ?_
   refine W.any (.move rfl) rfl rfl rfl ?_
   refine W.any (.eql rfl rfl) rfl rfl rfl ?_
   by_cases q5_4 : e3_0.2.1.ch = ch
   ·refine W.any (.dec (.move rfl) (decide_eq_true q5_4)) rfl rfl rfl ?_
    refine W.rdg (Any.rd (.field0 fa84_1 rfl) _) rfl rfl rfl (rfl) rfl rfl ?_
    refine W.rdg (.loadB (v := .int .i64 (e3_0.2.1.side)) na3 rfl f9 rfl) rfl rfl rfl (rfl) rfl rfl ?_
    refine W.rdg (Any.rd (.move rfl) _) rfl rfl rfl (rfl) rfl rfl ?_
    refine W.rdg (Any.rd (.eql rfl rfl) _) rfl rfl rfl (rfl) rfl rfl ?_
    refine W.any (.pickT rfl rfl rfl) rfl rfl rfl ?_
    refine W.nil (E.thenN ?_)
    by_cases c1 : e3_0.2.1.side = side
    ·refine WC.condY rfl (decide_eq_true c1) ?_
     refine WC.region ?_
     refine W.any (.move rfl) rfl rfl rfl ?_
     refine W.any (.field0 fa86_0 rfl) rfl rfl rfl ?_
     refine W.rd (.loadB (v := .int .i64 (e3_0.2.2.am)) na3 rfl b4_6 rfl) rfl rfl rfl ?_
     refine W.any (.add rfl rfl (by have h1 := sumF_perm (f := heldF ch side) hp3_0; rw [sumF_cons] at h1; have h2 := sumF_uns (f := heldF ch side) (seen := seen.push e3_0.1) (heldF_nn (ch := ch) (side := side) hb); have h3 : heldF ch side e3_0.2.1 e3_0.2.2 = e3_0.2.2.am := if_pos ⟨by assumption, by assumption⟩; unfold heldL at *; omega)) rfl rfl rfl ?_
     refine W.any (.assign rfl) rfl rfl rfl ?_
     refine W.nil (E.blkN ?_)
     have f10 := (((b3_0.le (h4_3.trans h4_4)).ch h4_5 (fun h => (show g4_3 ≠ r2_4 from by have := b3_0.lt; omega) (Option.some.inj h))).ch h4_6 (fun h => (show g4_4 ≠ r2_4 from by have := b3_0.lt; have := h4_3.size; omega) (Option.some.inj h)))
     refine E.again (seen.push e3_0.1) (.cons rfl (.cons rfl (.cons' rfl (int_eq (by have := sumF_perm (f := heldF ch side) hp3_0; rw [sumF_cons] at this; unfold heldF at this; first | (rw [if_pos ⟨by assumption, by assumption⟩] at this; unfold heldF; omega) | (rw [if_neg (by simp [q5_4, c1])] at this; unfold heldF; omega))) (.cons rfl (.nil _))))) ?_ ?_
     ·exact ⟨L8, by have := zl0; have := h3_0.size; have := h4_3.size; have := h4_4.size; have := h4_5.size; have := h4_6.size; omega, f10⟩
     ·first | omega | (simp only []; omega)
    ·refine WC.condN rfl (decide_eq_false c1) ?_
     refine WC.skip (E.blkN ?_)
     have f11 := (((b3_0.le (h4_3.trans h4_4)).ch h4_5 (fun h => (show g4_3 ≠ r2_4 from by have := b3_0.lt; omega) (Option.some.inj h))).ch h4_6 (fun h => (show g4_4 ≠ r2_4 from by have := b3_0.lt; have := h4_3.size; omega) (Option.some.inj h)))
     refine E.again (seen.push e3_0.1) (.cons rfl (.cons rfl (.cons' rfl (int_eq (by have := sumF_perm (f := heldF ch side) hp3_0; rw [sumF_cons] at this; unfold heldF at this; first | (rw [if_pos ⟨by assumption, by assumption⟩] at this; unfold heldF; omega) | (rw [if_neg (by simp [q5_4, c1])] at this; unfold heldF; omega))) (.cons rfl (.nil _))))) ?_ ?_
     ·exact ⟨L8, by have := zl0; have := h3_0.size; have := h4_3.size; have := h4_4.size; have := h4_5.size; have := h4_6.size; omega, f11⟩
     ·first | omega | (simp only []; omega)
   ·refine W.any (.dec (.move rfl) (decide_eq_false q5_4)) rfl rfl rfl ?_
    refine W.skip rfl rfl rfl (rfl) rfl rfl ?_
    refine W.skip rfl rfl rfl (rfl) rfl rfl ?_
    refine W.skip rfl rfl rfl (rfl) rfl rfl ?_
    refine W.skip rfl rfl rfl (rfl) rfl rfl ?_
    refine W.any (.pickF rfl rfl rfl) rfl rfl rfl ?_
    refine W.nil (E.thenN ?_)
    refine WC.condF rfl ?_
    refine WC.skip (E.blkN ?_)
    have f12 := (((b3_0.le (h4_3.trans h4_4)).ch h4_5 (fun h => (show g4_3 ≠ r2_4 from by have := b3_0.lt; omega) (Option.some.inj h))).ch h4_6 (fun h => (show g4_4 ≠ r2_4 from by have := b3_0.lt; have := h4_3.size; omega) (Option.some.inj h)))
    refine E.again (seen.push e3_0.1) (.cons rfl (.cons rfl (.cons' rfl (int_eq (by have := sumF_perm (f := heldF ch side) hp3_0; rw [sumF_cons] at this; unfold heldF at this; first | (rw [if_pos ⟨by assumption, by assumption⟩] at this; unfold heldF; omega) | (rw [if_neg (by simp [q5_4])] at this; unfold heldF; omega))) (.cons rfl (.nil _))))) ?_ ?_
    ·exact ⟨L8, by have := zl0; have := h3_0.size; have := h4_3.size; have := h4_4.size; have := h4_5.size; have := h4_6.size; omega, f12⟩
    ·first | omega | (simp only []; omega)
end Go.Proofs.YtmgfgbplbemklaaGreat

namespace Go.Proofs.YtmgfgbplbemklaaGreat
open Go Go.Sx Go.Num Go.Gsp Go.Lsp
set_option maxRecDepth 20000
set_option linter.unusedSimpArgs false
set_option linter.unusedVariables false
def rholdV (h : RHold) : List Value := [.int .i64 h.ch, .int .i64 h.side, .int .i64 h.id, .int .i64 h.am, .int .u64 ((h.pt : Nat) : Int)]
theorem rholdV_row : RowF rholdV 5 := ⟨fun _ => rfl, fun x v hv => by simp [rholdV] at hv; rcases hv with rfl | rfl | rfl | rfl | rfl <;> rfl, by decide⟩
theorem seatH_setL (s : Seat) (v : Int) {j : Nat} (h : j < 2) : seatV (s.setH j v) = (seatV s).set (3 + j) (.int .i64 v) := by
  have : j = 0 ∨ j = 1 := by omega
  rcases this with rfl | rfl <;> rfl
/-- The document's ledger in memory. -/
structure RLL (w : World) (gp : Nat) (Am : Option Addr) (cm : Nat) (Al : Option Addr) (cl : Nat) (Ah : Option Addr) (ch_ : Nat) (m : RLed) : Prop where
  hp : Blk w gp 71 #[.slice Am m.mine.length cm, .slice Al m.l.length cl, .slice Ah m.hs.length ch_, .int .i64 m.gone]
  hM : OVec w 0 3 iv 1 Am m.mine.length cm m.mine
  hS : OVec w 0 73 seatV 5 Al m.l.length cl m.l
  hH : OVec w 0 103 rholdV 5 Ah m.hs.length ch_ m.hs
  mp : rowOf Am cm ≠ some gp
  lp : rowOf Al cl ≠ some gp
  hpp : rowOf Ah ch_ ≠ some gp
  ml : Apart Am cm Al cl
  mh : Apart Am cm Ah ch_
  lh : Apart Al cl Ah ch_
def RLF (gp : Nat) (Am : Option Addr) (cm : Nat) (Al : Option Addr) (cl : Nat) (Ah : Option Addr) (ch_ : Nat) (k : Nat) : Prop := k = gp ∨ rowOf Am cm = some k ∨ rowOf Al cl = some k ∨ rowOf Ah ch_ = some k
section
variable {w w' : World} {gp cm cl ch_ : Nat} {Am Al Ah : Option Addr} {m : RLed}
theorem RLL.chP {F : Nat → Prop} (h : RLL w gp Am cm Al cl Ah ch_ m) (hc : ChP w w' F) (hne : ∀ k, RLF gp Am cm Al cl Ah ch_ k → ¬ F k) : RLL w' gp Am cm Al cl Ah ch_ m :=
  ⟨h.hp.chP hc (hne _ (.inl rfl)), h.hM.chP hc (fun k hk => hne _ (.inr (.inl hk))), h.hS.chP hc (fun k hk => hne _ (.inr (.inr (.inl hk)))), h.hH.chP hc (fun k hk => hne _ (.inr (.inr (.inr hk)))), h.mp, h.lp, h.hpp, h.ml, h.mh, h.lh⟩
theorem RLL.lt (h : RLL w gp Am cm Al cl Ah ch_ m) {k : Nat} (hk : RLF gp Am cm Al cl Ah ch_ k) : k < w.heap.size := by
  rcases hk with rfl | hk | hk | hk
  · exact h.hp.lt
  · exact (h.hM.row hk).2
  · exact (h.hS.row hk).2
  · exact (h.hH.row hk).2
end
theorem heldR_next {hs : List RHold} {ch side : Int} {k : Nat} (h : k < hs.length) : heldR (hs.take (k + 1)) ch side = heldR (hs.take k) ch side + if (hs.getD k noRHold).ch = ch ∧ (hs.getD k noRHold).side = side then (hs.getD k noRHold).am else 0 := by
  unfold heldR
  rw [take_next (z := noRHold) h]
  simp [-List.getD_eq_getElem?_getD]
theorem heldR_le {hs : List RHold} {ch side b : Int} (h : ∀ j, j < hs.length → 0 ≤ (hs.getD j noRHold).am ∧ (hs.getD j noRHold).am ≤ b) (hb : 0 ≤ b) : ∀ k, k ≤ hs.length → 0 ≤ heldR (hs.take k) ch side ∧ heldR (hs.take k) ch side ≤ b * k
  | 0, _ => by simp [heldR]
  | k + 1, hk => by
    have ih := heldR_le (ch := ch) (side := side) h hb k (by omega)
    have h2 := h k (by omega)
    rw [heldR_next (by omega)]
    have e : b * ((k + 1 : Nat) : Int) = b * (k : Int) + b := by rw [Int.natCast_succ, Int.mul_add, Int.mul_one]
    rw [e]
    generalize b * (k : Int) = q at *
    split <;> omega
/-- What of the document's ledger is small. -/
structure SmallR (m : RLed) : Prop where
  few : m.mine.length ≤ 12 ∧ m.l.length ≤ 40 ∧ m.hs.length ≤ 40
  mine : ∀ j, 0 ≤ m.mine.getD j 0 ∧ m.mine.getD j 0 ≤ 1125899906842624
  seats : ∀ j, j < m.l.length → seatOk m.mine.length (m.l.getD j noSeat)
  holds : ∀ j, j < m.hs.length → 0 ≤ (m.hs.getD j noRHold).am ∧ (m.hs.getD j noRHold).am ≤ 1125899906842624
def sideT (m : RLed) (party : Int) (t : Seat) : Nat → Int
  | 0 => 0
  | j + 1 => sideT m party t j + if t.p j = party then t.h j + heldR m.hs t.ch ((j : Nat) : Int) else 0
theorem sideT_next (m : RLed) (party : Int) (t : Seat) (j : Nat) : sideT m party t (j + 1) = sideT m party t j + if t.p j = party then t.h j + heldR m.hs t.ch ((j : Nat) : Int) else 0 := rfl
def worthT (m : RLed) (party : Int) (k : Nat) : Int := ownL m.mine party + ((m.l.take k).map fun t => sideT m party t 2).sum
theorem worthT_next {m : RLed} {party : Int} {k : Nat} (h : k < m.l.length) : worthT m party (k + 1) = worthT m party k + sideT m party (m.l.getD k noSeat) 2 := by
  unfold worthT
  rw [take_next (z := noSeat) h]
  simp [-List.getD_eq_getElem?_getD]
  omega
theorem worthT_all (m : RLed) (party : Int) : worthT m party m.l.length = worthR m party := by
  unfold worthT worthR
  rw [List.take_length]
  congr 2
  refine List.map_congr_left fun t _ => ?_
  simp only [sideT, Seat.p, Seat.h]
  simp
theorem heldT_le {m : RLed} (hf : SmallR m) (ch side : Int) : 0 ≤ heldR m.hs ch side ∧ heldR m.hs ch side ≤ 1125899906842624 * 40 := by
  have h := heldR_le (ch := ch) (side := side) hf.holds (by decide) m.hs.length (Nat.le_refl _)
  rw [List.take_length] at h
  have := hf.few
  omega
theorem sideT_le {m : RLed} (hf : SmallR m) (party : Int) {k : Nat} (hk : k < m.l.length) : ∀ j, j ≤ 2 → 0 ≤ sideT m party (m.l.getD k noSeat) j ∧ sideT m party (m.l.getD k noSeat) j ≤ 1125899906842624 * 41 * j
  | 0, _ => by simp [sideT]
  | j + 1, hj => by
    have ih := sideT_le hf party hk j (by omega)
    have h2 := heldT_le hf (m.l.getD k noSeat).ch ((j : Nat) : Int)
    have h3 := seatOk_at (hf.seats k hk) (k := j) (by omega)
    rw [sideT_next]
    split <;> omega
theorem ownT_le {m : RLed} (hf : SmallR m) (p : Int) : 0 ≤ ownL m.mine p ∧ ownL m.mine p ≤ 1125899906842624 := by
  unfold ownL
  have := hf.mine p.toNat
  split <;> omega
theorem worthT_le {m : RLed} (hf : SmallR m) (party : Int) : ∀ k, k ≤ m.l.length → 0 ≤ worthT m party k ∧ worthT m party k ≤ 1125899906842624 + 1125899906842624 * 82 * k
  | 0, _ => by
    have := ownT_le hf party
    simp [worthT]
    omega
  | k + 1, hk => by
    have ih := worthT_le hf party k (by omega)
    have h2 := sideT_le hf party (show k < m.l.length by omega) 2 (Nat.le_refl _)
    rw [worthT_next (by omega)]
    omega
theorem rcoin_ok (a : Int) (w : World) : Calls Tryz.prog 28 #[.int .i64 (a)] w fun r w' => r = .returned (.bool (coinL a)) ∧ Le w w' := by
 refine enter Tryz.func28 rfl rfl ?_
 have L0 := Le.refl w
 refine WC.seq (WC.region ?_)
 refine W.any (.assign rfl) rfl rfl rfl ?_
 refine W.nil (E.thenN (WC.seq (WC.region ?_)))
 refine W.any (.move rfl) rfl rfl rfl ?_
 refine W.any (.geq rfl rfl) rfl rfl rfl ?_
 by_cases q1_2 : 0 ≤ a
 ·refine W.any (.dec (.move rfl) (decide_eq_true q1_2)) rfl rfl rfl ?_
  refine W.rdg (Any.rd (.move rfl) _) rfl rfl rfl (rfl) rfl rfl ?_
  refine W.rdg (Any.rd (.leq rfl rfl) _) rfl rfl rfl (rfl) rfl rfl ?_
  refine W.any (.pickT rfl rfl rfl) rfl rfl rfl ?_
  refine W.any (.assign rfl) rfl rfl rfl ?_
  refine W.nil (E.thenN (WC.ret ?_))
  refine E.retG1 rfl rfl ?_
  exact ⟨congrArg (fun b => Ending.returned (Value.bool b)) (by simp [coinL, q1_2]), L0⟩
 ·refine W.any (.dec (.move rfl) (decide_eq_false q1_2)) rfl rfl rfl ?_
  refine W.skip rfl rfl rfl (rfl) rfl rfl ?_
  refine W.skip rfl rfl rfl (rfl) rfl rfl ?_
  refine W.any (.pickF rfl rfl rfl) rfl rfl rfl ?_
  refine W.any (.assign rfl) rfl rfl rfl ?_
  refine W.nil (E.thenN (WC.ret ?_))
  refine E.retG1 rfl rfl ?_
  exact ⟨congrArg (fun b => Ending.returned (Value.bool b)) (by simp [coinL, q1_2]), L0⟩

theorem rat_ok {gp cm cl ch_ : Nat} {Am Al Ah : Option Addr} {m : RLed} (ch : Int) (w : World) (hL : RLL w gp Am cm Al cl Ah ch_ m) (hf : SmallR m) : Calls Tryz.prog 59 #[.pointer (some ⟨gp, 0, none⟩), .int .i64 (ch)] w fun r w' => Le w w' ∧ ((r = .returned (.int .i64 (-1)) ∧ ∀ k, k < m.l.length → (m.l.getD k noSeat).ch ≠ ch) ∨ (∃ k, r = .returned (.int .i64 ((k : Nat) : Int)) ∧ k < m.l.length ∧ (m.l.getD k noSeat).ch = ch)) := by
 have hfl := hf.few
 refine enter Tryz.func59 rfl rfl ?_
 have L0 := Le.refl w
 refine WC.seq (WC.region ?_)
 refine W.any (.assign rfl) rfl rfl rfl ?_
 refine W.nil (E.thenN (WC.seq (WC.seq (WC.region ?_))))
 refine W.any (.assign rfl) rfl rfl rfl ?_
 refine W.nil (E.thenN (WC.block ?_))
 refine WC.loop (ι := Nat) (fun k => [(0, .pointer (some ⟨gp, 0, none⟩)), (1, .int .i64 (ch)), (5, .int .i64 (((k : Nat) : Int)))]) (fun k wl0 => (k ≤ m.l.length) ∧ (∀ j, j < k → (m.l.getD j noSeat).ch ≠ ch) ∧ Le w wl0 ∧ w.heap.size ≤ wl0.heap.size) (fun k => m.l.length - k) 0 ?_ ?_ ?_
 ·exact .cons rfl (.cons rfl (.cons rfl (.nil _)))
 ·exact ⟨Nat.zero_le _, (fun j hj => absurd hj (Nat.not_lt_zero _)), L0, Nat.le_refl _⟩
 ·rintro k wl0 ⟨hk, hz, Ll0, zl0⟩
  refine WC.seq (WC.seq (WC.region ?_))
  refine W.any (.move rfl) rfl rfl rfl ?_
  refine W.any (.move rfl) rfl rfl rfl ?_
  refine W.any (.nilCheck rfl) rfl rfl rfl ?_
  refine W.any (.field0 fa71_1 rfl) rfl rfl rfl ?_
  refine W.rd (.loadB (v := .slice Al m.l.length cl) na68 rfl (hL.hp.le Ll0) rfl) rfl rfl rfl ?_
  refine W.rd (.len Tryz.underlying68 rfl) rfl rfl rfl ?_
  refine W.any (.lss rfl rfl) rfl rfl rfl ?_
  refine W.nil (E.thenN ?_)
  by_cases c0 : ((k : Nat) : Int) < ((m.l.length : Nat) : Int)
  ·refine WC.condY rfl (decide_eq_true c0) ?_
   refine WC.skip (E.thenN (WC.seq (WC.block (WC.seq (WC.region ?_)))))
   refine W.any (.move rfl) rfl rfl rfl ?_
   refine W.any (.nilCheck rfl) rfl rfl rfl ?_
   refine W.any (.field0 fa71_1 rfl) rfl rfl rfl ?_
   refine W.rd (.loadB (v := .slice Al m.l.length cl) na68 rfl (hL.hp.le Ll0) rfl) rfl rfl rfl ?_
   refine W.any (.move rfl) rfl rfl rfl ?_
   refine W.any (.idxS (k) Tryz.underlying68 sz73 rfl rfl (hL.hS.vec.isSome seatV_row (by omega)) (rfl) (by omega)) rfl rfl rfl ?_
   refine W.any (.vfield fa73_0 (hL.hS.vec.isSome seatV_row (by omega)) rfl) rfl rfl rfl ?_
   refine W.rd (.vcell (j := k) (o := 0) (v := .int .i64 ((m.l.getD k noSeat).ch)) na3 rfl (hL.hS.vec.le Ll0) seatV_row (getS m.l noSeat (by first | omega | (simp only [List.length_cons, List.length_nil]; omega))) rfl) rfl rfl rfl ?_
   refine W.any (.move rfl) rfl rfl rfl ?_
   refine W.any (.eql rfl rfl) rfl rfl rfl ?_
   refine W.nil (E.thenN ?_)
   by_cases c1 : ((m.l.getD k noSeat).ch) = ch
   ·refine WC.condY rfl (decide_eq_true c1) ?_
    refine WC.seq (WC.region ?_)
    refine W.any (.move rfl) rfl rfl rfl ?_
    refine W.any (.assign rfl) rfl rfl rfl ?_
    refine W.nil (E.thenN (WC.ret (E.blkR (E.thenR (E.thenR (E.blkR (E.thenR ?_)))))))
    refine E.retG1 rfl rfl ?_
    exact ⟨Ll0, .inr ⟨k, rfl, by omega, by assumption⟩⟩
   ·refine WC.condN rfl (decide_eq_false c1) ?_
    refine WC.skip (E.blkN (E.thenN (WC.region ?_)))
    refine W.any (.move rfl) rfl rfl rfl ?_
    refine W.any (.add rfl rfl (by omega)) rfl rfl rfl ?_
    refine W.any (.assign rfl) rfl rfl rfl ?_
    refine W.nil ?_
    refine E.again (k + 1) (.cons rfl (.cons rfl (.cons rfl (.nil _)))) ?_ ?_
    ·exact ⟨by omega, (fun j hj => by rcases Nat.lt_or_ge j k with h | h; exact hz j h; rw [show j = k by omega]; assumption), Ll0, by have := zl0; omega⟩
    ·first | omega | (simp only []; omega)
  ·refine WC.condN rfl (decide_eq_false c0) ?_
   refine WC.exit (E.thenX (E.thenX (E.blkH (E.thenN (WC.seq (WC.region ?_))))))
   refine W.any (.assign rfl) rfl rfl rfl ?_
   refine W.nil (E.thenN (WC.ret ?_))
   refine E.retG1 rfl rfl ?_
   exact ⟨Ll0, .inl ⟨rfl, fun j hj => hz j (by omega)⟩⟩

theorem rheld_ok {gp cm cl ch_ : Nat} {Am Al Ah : Option Addr} {m : RLed} (ch side : Int) (w : World) (hL : RLL w gp Am cm Al cl Ah ch_ m) (hf : SmallR m) : Calls Tryz.prog 41 #[.pointer (some ⟨gp, 0, none⟩), .int .i64 (ch), .int .i64 (side)] w fun r w' => r = .returned (.int .i64 (heldR m.hs ch side)) ∧ Le w w' := by
 have hfl := hf.few
 refine enter Tryz.func41 rfl rfl ?_
 have L0 := Le.refl w
 refine WC.seq (WC.region ?_)
 refine W.any (.assign rfl) rfl rfl rfl ?_
 refine W.nil (E.thenN (WC.seq (WC.region ?_)))
 refine W.any (.assign rfl) rfl rfl rfl ?_
 refine W.nil (E.thenN (WC.seq (WC.seq (WC.region ?_))))
 refine W.any (.assign rfl) rfl rfl rfl ?_
 refine W.nil (E.thenN (WC.block ?_))
 refine WC.loop (ι := Nat) (fun k => [(0, .pointer (some ⟨gp, 0, none⟩)), (1, .int .i64 (ch)), (2, .int .i64 (side)), (7, .int .i64 (heldR (m.hs.take k) ch side)), (8, .int .i64 (((k : Nat) : Int)))]) (fun k wl0 => (k ≤ m.hs.length) ∧ Le w wl0 ∧ w.heap.size ≤ wl0.heap.size) (fun k => m.hs.length - k) 0 ?_ ?_ ?_
 ·exact .cons rfl (.cons rfl (.cons rfl (.cons rfl (.cons rfl (.nil _)))))
 ·exact ⟨Nat.zero_le _, L0, Nat.le_refl _⟩
 ·rintro k wl0 ⟨hk, Ll0, zl0⟩
  have hh := heldR_le (ch := ch) (side := side) hf.holds (by decide) k (by omega)
  refine WC.seq (WC.seq (WC.region ?_))
  refine W.any (.move rfl) rfl rfl rfl ?_
  refine W.any (.move rfl) rfl rfl rfl ?_
  refine W.any (.nilCheck rfl) rfl rfl rfl ?_
  refine W.any (.field0 fa71_2 rfl) rfl rfl rfl ?_
  refine W.rd (.loadB (v := .slice Ah m.hs.length ch_) na69 rfl (hL.hp.le Ll0) rfl) rfl rfl rfl ?_
  refine W.rd (.len Tryz.underlying69 rfl) rfl rfl rfl ?_
  refine W.any (.lss rfl rfl) rfl rfl rfl ?_
  refine W.nil (E.thenN ?_)
  by_cases c0 : ((k : Nat) : Int) < ((m.hs.length : Nat) : Int)
  ·refine WC.condY rfl (decide_eq_true c0) ?_
   refine WC.skip (E.thenN (WC.seq (WC.block (WC.seq (WC.region ?_)))))
   refine W.any (.move rfl) rfl rfl rfl ?_
   refine W.any (.nilCheck rfl) rfl rfl rfl ?_
   refine W.any (.field0 fa71_2 rfl) rfl rfl rfl ?_
   refine W.rd (.loadB (v := .slice Ah m.hs.length ch_) na69 rfl (hL.hp.le Ll0) rfl) rfl rfl rfl ?_
   refine W.any (.move rfl) rfl rfl rfl ?_
   refine W.any (.idxS (k) Tryz.underlying69 sz103 rfl rfl (hL.hH.vec.isSome rholdV_row (by omega)) (rfl) (by omega)) rfl rfl rfl ?_
   refine W.any (.vfield fa103_0 (hL.hH.vec.isSome rholdV_row (by omega)) rfl) rfl rfl rfl ?_
   refine W.rd (.vcell (j := k) (o := 0) (v := .int .i64 ((m.hs.getD k noRHold).ch)) na3 rfl (hL.hH.vec.le Ll0) rholdV_row (getS m.hs noRHold (by first | omega | (simp only [List.length_cons, List.length_nil]; omega))) rfl) rfl rfl rfl ?_
   refine W.any (.move rfl) rfl rfl rfl ?_
   refine W.any (.eql rfl rfl) rfl rfl rfl ?_
   by_cases q5_10 : ((m.hs.getD k noRHold).ch) = ch
   ·refine W.any (.dec (.move rfl) (decide_eq_true q5_10)) rfl rfl rfl ?_
    refine W.rdg (Any.rd (.move rfl) _) rfl rfl rfl (rfl) rfl rfl ?_
    refine W.rdg (Any.rd (.nilCheck rfl) _) rfl rfl rfl (rfl) rfl rfl ?_
    refine W.rdg (Any.rd (.field0 fa71_2 rfl) _) rfl rfl rfl (rfl) rfl rfl ?_
    refine W.rdg (.loadB (v := .slice Ah m.hs.length ch_) na69 rfl (hL.hp.le Ll0) rfl) rfl rfl rfl (rfl) rfl rfl ?_
    refine W.rdg (Any.rd (.move rfl) _) rfl rfl rfl (rfl) rfl rfl ?_
    refine W.rdg (Any.rd (.idxS (k) Tryz.underlying69 sz103 rfl rfl (hL.hH.vec.isSome rholdV_row (by omega)) (rfl) (by omega)) _) rfl rfl rfl (rfl) rfl rfl ?_
    refine W.rdg (Any.rd (.vfield fa103_1 (hL.hH.vec.isSome rholdV_row (by omega)) rfl) _) rfl rfl rfl (rfl) rfl rfl ?_
    refine W.rdg (.vcell (j := k) (o := 1) (v := .int .i64 ((m.hs.getD k noRHold).side)) na3 rfl (hL.hH.vec.le Ll0) rholdV_row (getS m.hs noRHold (by first | omega | (simp only [List.length_cons, List.length_nil]; omega))) rfl) rfl rfl rfl (rfl) rfl rfl ?_
    refine W.rdg (Any.rd (.move rfl) _) rfl rfl rfl (rfl) rfl rfl ?_
    refine W.rdg (Any.rd (.eql rfl rfl) _) rfl rfl rfl (rfl) rfl rfl ?_
    refine W.any (.pickT rfl rfl rfl) rfl rfl rfl ?_
    refine W.nil (E.thenN ?_)
    by_cases c1 : ((m.hs.getD k noRHold).side) = side
    ·refine WC.condY rfl (decide_eq_true c1) ?_
     have hho := hf.holds k (by omega)
     refine WC.region ?_
     refine W.any (.move rfl) rfl rfl rfl ?_
     refine W.any (.move rfl) rfl rfl rfl ?_
     refine W.any (.nilCheck rfl) rfl rfl rfl ?_
     refine W.any (.field0 fa71_2 rfl) rfl rfl rfl ?_
     refine W.rd (.loadB (v := .slice Ah m.hs.length ch_) na69 rfl (hL.hp.le Ll0) rfl) rfl rfl rfl ?_
     refine W.any (.move rfl) rfl rfl rfl ?_
     refine W.any (.idxS (k) Tryz.underlying69 sz103 rfl rfl (hL.hH.vec.isSome rholdV_row (by omega)) (rfl) (by omega)) rfl rfl rfl ?_
     refine W.any (.vfield fa103_3 (hL.hH.vec.isSome rholdV_row (by omega)) rfl) rfl rfl rfl ?_
     refine W.rd (.vcell (j := k) (o := 3) (v := .int .i64 ((m.hs.getD k noRHold).am)) na3 rfl (hL.hH.vec.le Ll0) rholdV_row (getS m.hs noRHold (by first | omega | (simp only [List.length_cons, List.length_nil]; omega))) rfl) rfl rfl rfl ?_
     refine W.any (.add rfl rfl (by omega)) rfl rfl rfl ?_
     refine W.any (.assign rfl) rfl rfl rfl ?_
     refine W.nil (E.blkN (E.thenN (WC.region ?_)))
     refine W.any (.move rfl) rfl rfl rfl ?_
     refine W.any (.add rfl rfl (by omega)) rfl rfl rfl ?_
     refine W.any (.assign rfl) rfl rfl rfl ?_
     refine W.nil ?_
     refine E.again (k + 1) (.cons rfl (.cons rfl (.cons rfl (.cons' rfl (int_eq (by rw [heldR_next (by omega)]; rw [if_pos ⟨by assumption, by assumption⟩])) (.cons rfl (.nil _)))))) ?_ ?_
     ·exact ⟨by omega, Ll0, by have := zl0; omega⟩
     ·first | omega | (simp only []; omega)
    ·refine WC.condN rfl (decide_eq_false c1) ?_
     refine WC.skip (E.blkN (E.thenN (WC.region ?_)))
     refine W.any (.move rfl) rfl rfl rfl ?_
     refine W.any (.add rfl rfl (by omega)) rfl rfl rfl ?_
     refine W.any (.assign rfl) rfl rfl rfl ?_
     refine W.nil ?_
     refine E.again (k + 1) (.cons rfl (.cons rfl (.cons rfl (.cons' rfl (int_eq (by rw [heldR_next (by omega)]; rw [if_neg (by intro hz; first | exact absurd hz.1 (by assumption) | exact absurd hz.2 (by assumption))]; omega)) (.cons rfl (.nil _)))))) ?_ ?_
     ·exact ⟨by omega, Ll0, by have := zl0; omega⟩
     ·first | omega | (simp only []; omega)
   ·refine W.any (.dec (.move rfl) (decide_eq_false q5_10)) rfl rfl rfl ?_
    refine W.skip rfl rfl rfl (rfl) rfl rfl ?_
    refine W.skip rfl rfl rfl (rfl) rfl rfl ?_
    refine W.skip rfl rfl rfl (rfl) rfl rfl ?_
    refine W.skip rfl rfl rfl (rfl) rfl rfl ?_
    refine W.skip rfl rfl rfl (rfl) rfl rfl ?_
    refine W.skip rfl rfl rfl (rfl) rfl rfl ?_
    refine W.skip rfl rfl rfl (rfl) rfl rfl ?_
    refine W.skip rfl rfl rfl (rfl) rfl rfl ?_
    refine W.skip rfl rfl rfl (rfl) rfl rfl ?_
    refine W.skip rfl rfl rfl (rfl) rfl rfl ?_
    refine W.any (.pickF rfl rfl rfl) rfl rfl rfl ?_
    refine W.nil (E.thenN ?_)
    refine WC.condF rfl ?_
    refine WC.skip (E.blkN (E.thenN (WC.region ?_)))
    refine W.any (.move rfl) rfl rfl rfl ?_
    refine W.any (.add rfl rfl (by omega)) rfl rfl rfl ?_
    refine W.any (.assign rfl) rfl rfl rfl ?_
    refine W.nil ?_
    refine E.again (k + 1) (.cons rfl (.cons rfl (.cons rfl (.cons' rfl (int_eq (by rw [heldR_next (by omega)]; rw [if_neg (by intro hz; first | exact absurd hz.1 (by assumption) | exact absurd hz.2 (by assumption))]; omega)) (.cons rfl (.nil _)))))) ?_ ?_
    ·exact ⟨by omega, Ll0, by have := zl0; omega⟩
    ·first | omega | (simp only []; omega)
  ·refine WC.condN rfl (decide_eq_false c0) ?_
   refine WC.exit (E.thenX (E.thenX (E.blkH (E.thenN (WC.seq (WC.region ?_))))))
   refine W.any (.move rfl) rfl rfl rfl ?_
   refine W.any (.assign rfl) rfl rfl rfl ?_
   refine W.nil (E.thenN (WC.ret ?_))
   refine E.retG1 rfl rfl ?_
   exact ⟨by rw [List.take_of_length_le (by omega)], Ll0⟩

theorem rown_ok {gp cm cl ch_ : Nat} {Am Al Ah : Option Addr} {m : RLed} (p : Int) (w : World) (hL : RLL w gp Am cm Al cl Ah ch_ m) (hf : SmallR m) : Calls Tryz.prog 42 #[.pointer (some ⟨gp, 0, none⟩), .int .i64 (p)] w fun r w' => r = .returned (.int .i64 (ownL m.mine p)) ∧ Le w w' := by
 have hfl := hf.few
 refine enter Tryz.func42 rfl rfl ?_
 have L0 := Le.refl w
 refine WC.seq (WC.region ?_)
 refine W.any (.assign rfl) rfl rfl rfl ?_
 refine W.nil (E.thenN (WC.seq (WC.seq (WC.region ?_))))
 refine W.any (.move rfl) rfl rfl rfl ?_
 refine W.any (.lss rfl rfl) rfl rfl rfl ?_
 by_cases q1_2 : p < 0
 ·refine W.any (.dec (.move rfl) (decide_eq_true q1_2)) rfl rfl rfl ?_
  refine W.skip rfl rfl rfl (rfl) rfl rfl ?_
  refine W.skip rfl rfl rfl (rfl) rfl rfl ?_
  refine W.skip rfl rfl rfl (rfl) rfl rfl ?_
  refine W.skip rfl rfl rfl (rfl) rfl rfl ?_
  refine W.skip rfl rfl rfl (rfl) rfl rfl ?_
  refine W.skip rfl rfl rfl (rfl) rfl rfl ?_
  refine W.skip rfl rfl rfl (rfl) rfl rfl ?_
  refine W.any (.pickT rfl rfl rfl) rfl rfl rfl ?_
  refine W.nil (E.thenN ?_)
  refine WC.condT rfl ?_
  refine WC.seq (WC.region ?_)
  refine W.any (.assign rfl) rfl rfl rfl ?_
  refine W.nil (E.thenN (WC.ret (E.thenR ?_)))
  refine E.retG1 rfl rfl ?_
  exact ⟨by unfold ownL; rw [if_neg (by omega)], L0⟩
 ·refine W.any (.dec (.move rfl) (decide_eq_false q1_2)) rfl rfl rfl ?_
  refine W.rdg (Any.rd (.move rfl) _) rfl rfl rfl (rfl) rfl rfl ?_
  refine W.rdg (Any.rd (.move rfl) _) rfl rfl rfl (rfl) rfl rfl ?_
  refine W.rdg (Any.rd (.nilCheck rfl) _) rfl rfl rfl (rfl) rfl rfl ?_
  refine W.rdg (Any.rd (.field0 fa71_0 rfl) _) rfl rfl rfl (rfl) rfl rfl ?_
  refine W.rdg (.loadB (v := .slice Am m.mine.length cm) na22 rfl (hL.hp.le L0) rfl) rfl rfl rfl (rfl) rfl rfl ?_
  refine W.rdg (.len Tryz.underlying22 rfl) rfl rfl rfl (rfl) rfl rfl ?_
  refine W.rdg (Any.rd (.geq rfl rfl) _) rfl rfl rfl (rfl) rfl rfl ?_
  refine W.any (.pickF rfl rfl rfl) rfl rfl rfl ?_
  refine W.nil (E.thenN ?_)
  by_cases c0 : ((m.mine.length : Nat) : Int) ≤ p
  ·refine WC.condY rfl (decide_eq_true c0) ?_
   refine WC.seq (WC.region ?_)
   refine W.any (.assign rfl) rfl rfl rfl ?_
   refine W.nil (E.thenN (WC.ret (E.thenR ?_)))
   refine E.retG1 rfl rfl ?_
   exact ⟨by unfold ownL; rw [if_neg (by omega)], L0⟩
  ·refine WC.condN rfl (decide_eq_false c0) ?_
   refine WC.skip (E.thenN (WC.seq (WC.region ?_)))
   refine W.any (.move rfl) rfl rfl rfl ?_
   refine W.any (.nilCheck rfl) rfl rfl rfl ?_
   refine W.any (.field0 fa71_0 rfl) rfl rfl rfl ?_
   refine W.rd (.loadB (v := .slice Am m.mine.length cm) na22 rfl (hL.hp.le L0) rfl) rfl rfl rfl ?_
   refine W.any (.move rfl) rfl rfl rfl ?_
   refine W.any (.idxS (p.toNat) Tryz.underlying22 sz3 rfl rfl (hL.hM.vec.isSome iv_row (by omega)) (by omega) (by omega)) rfl rfl rfl ?_
   refine W.rd (.vone (v := .int .i64 ((m.mine.getD p.toNat 0))) na3 rfl (hL.hM.vec.le L0) iv_row (getS m.mine 0 (by first | omega | (simp only [List.length_cons, List.length_nil]; omega))) rfl) rfl rfl rfl ?_
   refine W.any (.assign rfl) rfl rfl rfl ?_
   refine W.nil (E.thenN (WC.ret ?_))
   refine E.retG1 rfl rfl ?_
   exact ⟨by unfold ownL; rw [if_pos (by omega)], L0⟩

theorem rlost_ok {gp cm cl ch_ : Nat} {Am Al Ah : Option Addr} {m : RLed} (w : World) (hL : RLL w gp Am cm Al cl Ah ch_ m) (hf : SmallR m) : Calls Tryz.prog 39 #[.pointer (some ⟨gp, 0, none⟩)] w fun r w' => r = .returned (.int .i64 m.gone) ∧ Le w w' := by
 have hfl := hf.few
 refine enter Tryz.func39 rfl rfl ?_
 have L0 := Le.refl w
 refine WC.seq (WC.region ?_)
 refine W.any (.assign rfl) rfl rfl rfl ?_
 refine W.nil (E.thenN (WC.seq (WC.region ?_)))
 refine W.any (.move rfl) rfl rfl rfl ?_
 refine W.any (.nilCheck rfl) rfl rfl rfl ?_
 refine W.any (.field0 fa71_3 rfl) rfl rfl rfl ?_
 refine W.rd (.loadB (v := .int .i64 (m.gone)) na3 rfl (hL.hp.le L0) rfl) rfl rfl rfl ?_
 refine W.any (.assign rfl) rfl rfl rfl ?_
 refine W.nil (E.thenN (WC.ret ?_))
 refine E.retG1 rfl rfl ?_
 exact ⟨rfl, L0⟩

theorem rhold_ok {gp cm cl ch_ : Nat} {Am Al Ah : Option Addr} {m : RLed} (ch side id : Int) (w : World) (hL : RLL w gp Am cm Al cl Ah ch_ m) (hf : SmallR m) : Calls Tryz.prog 64 #[.pointer (some ⟨gp, 0, none⟩), .int .i64 (ch), .int .i64 (side), .int .i64 (id)] w fun r w' => Le w w' ∧ ((r = .returned (.int .i64 (-1)) ∧ ∀ k, k < m.hs.length → ¬ ((m.hs.getD k noRHold).ch = ch ∧ (m.hs.getD k noRHold).side = side ∧ (m.hs.getD k noRHold).id = id)) ∨ (∃ k, r = .returned (.int .i64 ((k : Nat) : Int)) ∧ k < m.hs.length ∧ ((m.hs.getD k noRHold).ch = ch ∧ (m.hs.getD k noRHold).side = side ∧ (m.hs.getD k noRHold).id = id))) := by
 have hfl := hf.few
 refine enter Tryz.func64 rfl rfl ?_
 have L0 := Le.refl w
 refine WC.seq (WC.region ?_)
 refine W.any (.assign rfl) rfl rfl rfl ?_
 refine W.nil (E.thenN (WC.seq (WC.seq (WC.region ?_))))
 refine W.any (.assign rfl) rfl rfl rfl ?_
 refine W.nil (E.thenN (WC.block ?_))
 refine WC.loop (ι := Nat) (fun k => [(0, .pointer (some ⟨gp, 0, none⟩)), (1, .int .i64 (ch)), (2, .int .i64 (side)), (3, .int .i64 (id)), (9, .int .i64 (((k : Nat) : Int)))]) (fun k wl0 => (k ≤ m.hs.length) ∧ (∀ j, j < k → ¬ ((m.hs.getD j noRHold).ch = ch ∧ (m.hs.getD j noRHold).side = side ∧ (m.hs.getD j noRHold).id = id)) ∧ Le w wl0 ∧ w.heap.size ≤ wl0.heap.size) (fun k => m.hs.length - k) 0 ?_ ?_ ?_
 ·exact .cons rfl (.cons rfl (.cons rfl (.cons rfl (.cons rfl (.nil _)))))
 ·exact ⟨Nat.zero_le _, (fun j hj => absurd hj (Nat.not_lt_zero _)), L0, Nat.le_refl _⟩
 ·rintro k wl0 ⟨hk, hz, Ll0, zl0⟩
  refine WC.seq (WC.seq (WC.region ?_))
  refine W.any (.move rfl) rfl rfl rfl ?_
  refine W.any (.move rfl) rfl rfl rfl ?_
  refine W.any (.nilCheck rfl) rfl rfl rfl ?_
  refine W.any (.field0 fa71_2 rfl) rfl rfl rfl ?_
  refine W.rd (.loadB (v := .slice Ah m.hs.length ch_) na69 rfl (hL.hp.le Ll0) rfl) rfl rfl rfl ?_
  refine W.rd (.len Tryz.underlying69 rfl) rfl rfl rfl ?_
  refine W.any (.lss rfl rfl) rfl rfl rfl ?_
  refine W.nil (E.thenN ?_)
  by_cases c0 : ((k : Nat) : Int) < ((m.hs.length : Nat) : Int)
  ·refine WC.condY rfl (decide_eq_true c0) ?_
   refine WC.skip (E.thenN (WC.seq (WC.block (WC.seq (WC.region ?_)))))
   refine W.any (.move rfl) rfl rfl rfl ?_
   refine W.any (.nilCheck rfl) rfl rfl rfl ?_
   refine W.any (.field0 fa71_2 rfl) rfl rfl rfl ?_
   refine W.rd (.loadB (v := .slice Ah m.hs.length ch_) na69 rfl (hL.hp.le Ll0) rfl) rfl rfl rfl ?_
   refine W.any (.move rfl) rfl rfl rfl ?_
   refine W.any (.idxS (k) Tryz.underlying69 sz103 rfl rfl (hL.hH.vec.isSome rholdV_row (by omega)) (rfl) (by omega)) rfl rfl rfl ?_
   refine W.rd (.vload ag103 rfl (hL.hH.vec.le Ll0) rholdV_row (getS m.hs noRHold (by first | omega | (simp only [List.length_cons, List.length_nil]; omega)))) rfl rfl rfl ?_
   refine W.ef rfl rfl rfl ?_
   refine Ef.allocA z103 ?_
   intro g4_7 w4_7 hg4_7 b4_7 h4_7
   have L1 := Ll0.trans h4_7
   have b4_7 : Blk w4_7 g4_7 103 (rholdV noRHold).toArray := b4_7
   refine W.ef0 rfl rfl ?_
   refine Ef.storeAll sz103 (by rfl) rfl rfl b4_7 (by simp only [List.size_toArray, rholdV_row.len]) (rholdV_row.one (m.hs.getD k noRHold)) ?_
   intro w4_8 b4_8 h4_8
   have b4_8 : Blk w4_8 g4_7 103 (rholdV (m.hs.getD k noRHold)).toArray := b4_8
   have L2 : Le w w4_8 := L1.then_ h4_8 (fun q hq => by cases hq; exact Nat.le_trans Ll0.size hg4_7)
   refine W.nil (E.thenN (WC.seq (WC.region ?_)))
   refine W.any (.field0 fa103_0 rfl) rfl rfl rfl ?_
   refine W.rd (.loadB (v := .int .i64 ((m.hs.getD k noRHold).ch)) na3 rfl b4_8 rfl) rfl rfl rfl ?_
   refine W.any (.move rfl) rfl rfl rfl ?_
   refine W.any (.eql rfl rfl) rfl rfl rfl ?_
   by_cases q5_4 : ((m.hs.getD k noRHold).ch) = ch
   ·refine W.any (.dec (.move rfl) (decide_eq_true q5_4)) rfl rfl rfl ?_
    refine W.rdg (Any.rd (.field0 fa103_1 rfl) _) rfl rfl rfl (rfl) rfl rfl ?_
    refine W.rdg (.loadB (v := .int .i64 ((m.hs.getD k noRHold).side)) na3 rfl b4_8 rfl) rfl rfl rfl (rfl) rfl rfl ?_
    refine W.rdg (Any.rd (.move rfl) _) rfl rfl rfl (rfl) rfl rfl ?_
    refine W.rdg (Any.rd (.eql rfl rfl) _) rfl rfl rfl (rfl) rfl rfl ?_
    refine W.any (.pickT rfl rfl rfl) rfl rfl rfl ?_
    by_cases q5_10 : ((m.hs.getD k noRHold).side) = side
    ·refine W.any (.dec (.move rfl) (decide_eq_true q5_10)) rfl rfl rfl ?_
     refine W.rdg (Any.rd (.field0 fa103_2 rfl) _) rfl rfl rfl (rfl) rfl rfl ?_
     refine W.rdg (.loadB (v := .int .i64 ((m.hs.getD k noRHold).id)) na3 rfl b4_8 rfl) rfl rfl rfl (rfl) rfl rfl ?_
     refine W.rdg (Any.rd (.move rfl) _) rfl rfl rfl (rfl) rfl rfl ?_
     refine W.rdg (Any.rd (.eql rfl rfl) _) rfl rfl rfl (rfl) rfl rfl ?_
     refine W.any (.pickT rfl rfl rfl) rfl rfl rfl ?_
     refine W.nil (E.thenN ?_)
     by_cases c1 : ((m.hs.getD k noRHold).id) = id
     ·refine WC.condY rfl (decide_eq_true c1) ?_
      refine WC.seq (WC.region ?_)
      refine W.any (.move rfl) rfl rfl rfl ?_
      refine W.any (.assign rfl) rfl rfl rfl ?_
      refine W.nil (E.thenN (WC.ret (E.blkR (E.thenR (E.thenR (E.blkR (E.thenR ?_)))))))
      refine E.retG1 rfl rfl ?_
      exact ⟨L2, .inr ⟨k, rfl, by omega, by omega⟩⟩
     ·refine WC.condN rfl (decide_eq_false c1) ?_
      refine WC.skip (E.blkN (E.thenN (WC.region ?_)))
      refine W.any (.move rfl) rfl rfl rfl ?_
      refine W.any (.add rfl rfl (by omega)) rfl rfl rfl ?_
      refine W.any (.assign rfl) rfl rfl rfl ?_
      refine W.nil ?_
      refine E.again (k + 1) (.cons rfl (.cons rfl (.cons rfl (.cons rfl (.cons rfl (.nil _)))))) ?_ ?_
      ·exact ⟨by omega, (fun j hj => by rcases Nat.lt_or_ge j k with h | h; exact hz j h; rw [show j = k by omega]; omega), L2, by have := zl0; have := h4_7.size; have := h4_8.size; omega⟩
      ·first | omega | (simp only []; omega)
    ·refine W.any (.dec (.move rfl) (decide_eq_false q5_10)) rfl rfl rfl ?_
     refine W.skip rfl rfl rfl (rfl) rfl rfl ?_
     refine W.skip rfl rfl rfl (rfl) rfl rfl ?_
     refine W.skip rfl rfl rfl (rfl) rfl rfl ?_
     refine W.skip rfl rfl rfl (rfl) rfl rfl ?_
     refine W.any (.pickF rfl rfl rfl) rfl rfl rfl ?_
     refine W.nil (E.thenN ?_)
     refine WC.condF rfl ?_
     refine WC.skip (E.blkN (E.thenN (WC.region ?_)))
     refine W.any (.move rfl) rfl rfl rfl ?_
     refine W.any (.add rfl rfl (by omega)) rfl rfl rfl ?_
     refine W.any (.assign rfl) rfl rfl rfl ?_
     refine W.nil ?_
     refine E.again (k + 1) (.cons rfl (.cons rfl (.cons rfl (.cons rfl (.cons rfl (.nil _)))))) ?_ ?_
     ·exact ⟨by omega, (fun j hj => by rcases Nat.lt_or_ge j k with h | h; exact hz j h; rw [show j = k by omega]; omega), L2, by have := zl0; have := h4_7.size; have := h4_8.size; omega⟩
     ·first | omega | (simp only []; omega)
   ·refine W.any (.dec (.move rfl) (decide_eq_false q5_4)) rfl rfl rfl ?_
    refine W.skip rfl rfl rfl (rfl) rfl rfl ?_
    refine W.skip rfl rfl rfl (rfl) rfl rfl ?_
    refine W.skip rfl rfl rfl (rfl) rfl rfl ?_
    refine W.skip rfl rfl rfl (rfl) rfl rfl ?_
    refine W.any (.pickF rfl rfl rfl) rfl rfl rfl ?_
    refine W.any (.move rfl) rfl rfl rfl ?_
    refine W.skip rfl rfl rfl (rfl) rfl rfl ?_
    refine W.skip rfl rfl rfl (rfl) rfl rfl ?_
    refine W.skip rfl rfl rfl (rfl) rfl rfl ?_
    refine W.skip rfl rfl rfl (rfl) rfl rfl ?_
    refine W.any (.pickF rfl rfl rfl) rfl rfl rfl ?_
    refine W.nil (E.thenN ?_)
    refine WC.condF rfl ?_
    refine WC.skip (E.blkN (E.thenN (WC.region ?_)))
    refine W.any (.move rfl) rfl rfl rfl ?_
    refine W.any (.add rfl rfl (by omega)) rfl rfl rfl ?_
    refine W.any (.assign rfl) rfl rfl rfl ?_
    refine W.nil ?_
    refine E.again (k + 1) (.cons rfl (.cons rfl (.cons rfl (.cons rfl (.cons rfl (.nil _)))))) ?_ ?_
    ·exact ⟨by omega, (fun j hj => by rcases Nat.lt_or_ge j k with h | h; exact hz j h; rw [show j = k by omega]; omega), L2, by have := zl0; have := h4_7.size; have := h4_8.size; omega⟩
    ·first | omega | (simp only []; omega)
  ·refine WC.condN rfl (decide_eq_false c0) ?_
   refine WC.exit (E.thenX (E.thenX (E.blkH (E.thenN (WC.seq (WC.region ?_))))))
   refine W.any (.assign rfl) rfl rfl rfl ?_
   refine W.nil (E.thenN (WC.ret ?_))
   refine E.retG1 rfl rfl ?_
   exact ⟨Ll0, .inl ⟨rfl, fun j hj => hz j (by omega)⟩⟩

theorem rfree_ok {gp cm cl ch_ : Nat} {Am Al Ah : Option Addr} {m : RLed} (ch : Int) (w : World) (hL : RLL w gp Am cm Al cl Ah ch_ m) (hf : SmallR m) : Calls Tryz.prog 61 #[.pointer (some ⟨gp, 0, none⟩), .int .i64 (ch)] w fun r w' => r = .returned (.bool (decide (heldR m.hs ch 0 = 0 ∧ heldR m.hs ch 1 = 0))) ∧ Le w w' := by
 have hfl := hf.few
 refine enter Tryz.func61 rfl rfl ?_
 have L0 := Le.refl w
 refine WC.seq (WC.region ?_)
 refine W.any (.assign rfl) rfl rfl rfl ?_
 refine W.nil (E.thenN (WC.seq (WC.region ?_)))
 refine W.any (.move rfl) rfl rfl rfl ?_
 refine W.any (.move rfl) rfl rfl rfl ?_
 refine W.ef rfl rfl rfl ?_
 refine Ef.call go41 rfl rfl (rheld_ok ch 0 w (hL.chP (L0.chP (fun _ => False)) (fun _ _ hf => hf)) hf) ?_
 rintro _ w1_2 ⟨rfl, h1_2⟩
 refine ⟨_, rfl, ?_⟩
 have L1 := L0.trans h1_2
 refine W.any (.eql rfl rfl) rfl rfl rfl ?_
 by_cases q1_4 : (heldR m.hs ch 0) = 0
 ·refine W.any (.dec (.move rfl) (decide_eq_true q1_4)) rfl rfl rfl ?_
  refine W.rdg (Any.rd (.move rfl) _) rfl rfl rfl (rfl) rfl rfl ?_
  refine W.rdg (Any.rd (.move rfl) _) rfl rfl rfl (rfl) rfl rfl ?_
  refine W.efg rfl rfl rfl (rfl) rfl rfl ?_
  refine Ef.call go41 rfl rfl (rheld_ok ch 1 w1_2 (hL.chP (L1.chP (fun _ => False)) (fun _ _ hf => hf)) hf) ?_
  rintro _ w1_7 ⟨rfl, h1_7⟩
  refine ⟨_, rfl, ?_⟩
  have L2 := L1.trans h1_7
  refine W.rdg (Any.rd (.eql rfl rfl) _) rfl rfl rfl (rfl) rfl rfl ?_
  refine W.any (.pickT rfl rfl rfl) rfl rfl rfl ?_
  refine W.any (.assign rfl) rfl rfl rfl ?_
  refine W.nil (E.thenN (WC.ret ?_))
  refine E.retG1 rfl rfl ?_
  exact ⟨congrArg (fun b => Ending.returned (Value.bool b)) (by simp [q1_4]), L2⟩
 ·refine W.any (.dec (.move rfl) (decide_eq_false q1_4)) rfl rfl rfl ?_
  refine W.skip rfl rfl rfl (rfl) rfl rfl ?_
  refine W.skip rfl rfl rfl (rfl) rfl rfl ?_
  refine W.skip rfl rfl rfl (rfl) rfl rfl ?_
  refine W.skip rfl rfl rfl (rfl) rfl rfl ?_
  refine W.any (.pickF rfl rfl rfl) rfl rfl rfl ?_
  refine W.any (.assign rfl) rfl rfl rfl ?_
  refine W.nil (E.thenN (WC.ret ?_))
  refine E.retG1 rfl rfl ?_
  exact ⟨congrArg (fun b => Ending.returned (Value.bool b)) (by simp [q1_4]), L1⟩

theorem rseats_ok {gp cm cl ch_ : Nat} {Am Al Ah : Option Addr} {m : RLed} (w : World) (hL : RLL w gp Am cm Al cl Ah ch_ m) (hf : SmallR m) : Calls Tryz.prog 38 #[.pointer (some ⟨gp, 0, none⟩)] w fun r w' => ∃ A c, r = .returned (.slice A m.l.length c) ∧ OVec w' w.heap.size 73 seatV 5 A m.l.length c m.l ∧ Le w w' := by
 have hfl := hf.few
 refine enter Tryz.func38 rfl rfl ?_
 have L0 := Le.refl w
 refine WC.seq (WC.region ?_)
 refine W.any (.assign rfl) rfl rfl rfl ?_
 refine W.nil (E.thenN (WC.seq (WC.region ?_)))
 refine W.ef rfl rfl rfl ?_
 refine Ef.buildSlice0 Tryz.underlying68 el73 ?_
 intro g1_0 w1_0 hg1_0 b1_0 h1_0
 have L1 := L0.trans h1_0
 have o1_0 : OVec w1_0 w.heap.size 73 seatV 5 (some ⟨g1_0, 0, none⟩) 0 0 [] := OVec.nil _ _ _ _ _ _
 refine W.any (.move rfl) rfl rfl rfl ?_
 refine W.any (.nilCheck rfl) rfl rfl rfl ?_
 refine W.any (.field0 fa71_1 rfl) rfl rfl rfl ?_
 refine W.rd (.loadB (v := .slice Al m.l.length cl) na68 rfl (hL.hp.le L1) rfl) rfl rfl rfl ?_
 refine W.ef rfl rfl rfl ?_
 refine Ef.vcat Tryz.underlying68 el73 Tryz.underlying68 seatV_row rfl o1_0 rfl (hL.hS.vec.le L1) (by omega) (by unfold maxLen; omega) (by have := h1_0.size; omega) ?_
 intro A1_5 c1_5 w1_5 o1_5 h1_5 at1_5
 have L2 : Le w w1_5 := L1.then_ h1_5 (fun q hq => Nat.le_trans L0.size (o1_0.row hq).1)
 refine W.any (.assign rfl) rfl rfl rfl ?_
 refine W.nil (E.thenN (WC.ret ?_))
 refine E.retG1 rfl rfl ?_
 have hq := (o1_5.mono L0.size); have hz : (0 + m.l.length) = m.l.length := (by omega); exact ⟨_, _, by rw [hz], hq.cast hz (by simp), L2⟩

theorem rmay_ok {gp cm cl ch_ : Nat} {Am Al Ah : Option Addr} {m : RLed} (s : Seat) (w : World) (hL : RLL w gp Am cm Al cl Ah ch_ m) (hf : SmallR m) : Calls Tryz.prog 58 #[.pointer (some ⟨gp, 0, none⟩), .agg (seatV s).toArray] w fun r w' => ∃ b : Bool, r = .returned (.bool b) ∧ (b = true ↔ mayL m.mine.length s) ∧ Le w w' := by
 have hfl := hf.few
 refine enter Tryz.func58 rfl rfl ?_
 have L0 := Le.refl w
 refine WC.seq (WC.region ?_)
 refine W.ef rfl rfl rfl ?_
 refine Ef.boxA rfl ?_
 intro g0_0 w0_0 hg0_0 b0_0 h0_0
 have L1 := L0.trans h0_0
 have b0_0 : Blk w0_0 g0_0 73 (seatV s).toArray := b0_0
 refine W.any (.assign rfl) rfl rfl rfl ?_
 refine W.nil (E.thenN (WC.seq (WC.seq (WC.region ?_))))
 refine W.any (.assign rfl) rfl rfl rfl ?_
 refine W.nil (E.thenN (WC.block ?_))
 refine WC.loop (ι := Nat) (fun k => [(0, .pointer (some ⟨gp, 0, none⟩)), (3, .pointer (some ⟨g0_0, 0, none⟩)), (5, .int .i64 (((k : Nat) : Int)))]) (fun k wl0 => (k ≤ 2) ∧ (∀ i, i < k → 0 ≤ s.p i ∧ s.p i < m.mine.length ∧ 0 ≤ s.h i ∧ s.h i ≤ 1125899906842624) ∧ Le w wl0 ∧ w0_0.heap.size ≤ wl0.heap.size ∧ Blk wl0 g0_0 73 (seatV s).toArray) (fun k => 2 - k) 0 ?_ ?_ ?_
 ·exact .cons rfl (.cons rfl (.cons rfl (.nil _)))
 ·exact ⟨Nat.zero_le _, (fun i hi => by omega), L1, Nat.le_refl _, b0_0⟩
 ·rintro k wl0 ⟨hk, hall, Ll0, zl0, f0_0⟩
  refine WC.seq (WC.seq (WC.region ?_))
  refine W.any (.move rfl) rfl rfl rfl ?_
  refine W.any (.lss rfl rfl) rfl rfl rfl ?_
  refine W.nil (E.thenN ?_)
  by_cases c0 : ((k : Nat) : Int) < 2
  ·refine WC.condY rfl (decide_eq_true c0) ?_
   refine WC.skip (E.thenN (WC.seq (WC.block (WC.seq ?_))))
   refine WC.draw [0, 1, 2, 3, 4, 5, 6, 7, 8, 9, 10, 11, 12, 13, 14, 15, 16, 17, 18, 19, 20, 21, 22, 23, 24] mixed (by kernel_rfl) ?_
   intro w4 d4
   have L2 := Ll0.trans d4
   refine G.any rfl rfl (.move rfl) rfl rfl rfl ?_
   refine G.any rfl rfl (.field0 fa73_1 rfl) rfl rfl rfl ?_
   refine G.any rfl rfl (.idxAo (k) Tryz.underlying35 sz3 rfl rfl (rfl) (by omega)) rfl rfl rfl ?_
   have f3 := (f0_0.le d4)
   refine G.rd rfl rfl (.loadB (v := .int .i64 ((s.p k))) na3 rfl f3 (seatP_at s (by omega))) rfl rfl rfl ?_
   refine G.any rfl rfl (.lss rfl rfl) rfl rfl rfl ?_
   by_cases q4_5 : (s.p k) < 0
   ·refine G.any rfl rfl (.dec (.move rfl) (decide_eq_true q4_5)) rfl rfl rfl ?_
    refine G.skip rfl rfl rfl rfl (rfl) rfl rfl ?_
    refine G.skip rfl rfl rfl rfl (rfl) rfl rfl ?_
    refine G.skip rfl rfl rfl rfl (rfl) rfl rfl ?_
    refine G.skip rfl rfl rfl rfl (rfl) rfl rfl ?_
    refine G.skip rfl rfl rfl rfl (rfl) rfl rfl ?_
    refine G.skip rfl rfl rfl rfl (rfl) rfl rfl ?_
    refine G.skip rfl rfl rfl rfl (rfl) rfl rfl ?_
    refine G.skip rfl rfl rfl rfl (rfl) rfl rfl ?_
    refine G.skip rfl rfl rfl rfl (rfl) rfl rfl ?_
    refine G.skip rfl rfl rfl rfl (rfl) rfl rfl ?_
    refine G.any rfl rfl (.pickT rfl rfl rfl) rfl rfl rfl ?_
    refine G.any rfl rfl (.move rfl) rfl rfl rfl ?_
    refine G.skip rfl rfl rfl rfl (rfl) rfl rfl ?_
    refine G.skip rfl rfl rfl rfl (rfl) rfl rfl ?_
    refine G.skip rfl rfl rfl rfl (rfl) rfl rfl ?_
    refine G.skip rfl rfl rfl rfl (rfl) rfl rfl ?_
    refine G.skip rfl rfl rfl rfl (rfl) rfl rfl ?_
    refine G.skip rfl rfl rfl rfl (rfl) rfl rfl ?_
    refine G.any rfl rfl (.pickT rfl rfl rfl) rfl rfl rfl ?_
    refine G.nil (E.thenN ?_)
    refine WC.condT rfl ?_
    refine WC.seq (WC.region ?_)
    refine W.any (.assign rfl) rfl rfl rfl ?_
    refine W.nil (E.thenN (WC.ret (E.blkR (E.thenR (E.thenR (E.blkR (E.thenR ?_)))))))
    refine E.retG1 rfl rfl ?_
    exact ⟨false, rfl, ⟨fun h => (by cases h), fun h => by have hh := (mayL_all.1 h).1 k (by omega); (try simp only [coinL, decide_eq_true_eq] at *); omega⟩, L2⟩
   ·refine G.any rfl rfl (.dec (.move rfl) (decide_eq_false q4_5)) rfl rfl rfl ?_
    refine G.anyg rfl rfl (.move rfl) rfl rfl rfl (rfl) rfl rfl ?_
    refine G.anyg rfl rfl (.field0 fa73_1 rfl) rfl rfl rfl (rfl) rfl rfl ?_
    refine G.anyg rfl rfl (.idxAo (k) Tryz.underlying35 sz3 rfl rfl (rfl) (by omega)) rfl rfl rfl (rfl) rfl rfl ?_
    refine G.rdg rfl rfl (.loadB (v := .int .i64 ((s.p k))) na3 rfl f3 (seatP_at s (by omega))) rfl rfl rfl (rfl) rfl rfl ?_
    refine G.anyg rfl rfl (.move rfl) rfl rfl rfl (rfl) rfl rfl ?_
    refine G.anyg rfl rfl (.nilCheck rfl) rfl rfl rfl (rfl) rfl rfl ?_
    refine G.anyg rfl rfl (.field0 fa71_0 rfl) rfl rfl rfl (rfl) rfl rfl ?_
    refine G.rdg rfl rfl (.loadB (v := .slice Am m.mine.length cm) na22 rfl (hL.hp.le L2) rfl) rfl rfl rfl (rfl) rfl rfl ?_
    refine G.rdg rfl rfl (.len Tryz.underlying22 rfl) rfl rfl rfl (rfl) rfl rfl ?_
    refine G.anyg rfl rfl (.geq rfl rfl) rfl rfl rfl (rfl) rfl rfl ?_
    refine G.any rfl rfl (.pickF rfl rfl rfl) rfl rfl rfl ?_
    by_cases q4_17 : ((m.mine.length : Nat) : Int) ≤ (s.p k)
    ·refine G.any rfl rfl (.dec (.move rfl) (decide_eq_true q4_17)) rfl rfl rfl ?_
     refine G.skip rfl rfl rfl rfl (rfl) rfl rfl ?_
     refine G.skip rfl rfl rfl rfl (rfl) rfl rfl ?_
     refine G.skip rfl rfl rfl rfl (rfl) rfl rfl ?_
     refine G.skip rfl rfl rfl rfl (rfl) rfl rfl ?_
     refine G.skip rfl rfl rfl rfl (rfl) rfl rfl ?_
     refine G.skip rfl rfl rfl rfl (rfl) rfl rfl ?_
     refine G.any rfl rfl (.pickT rfl rfl rfl) rfl rfl rfl ?_
     refine G.nil (E.thenN ?_)
     refine WC.condT rfl ?_
     refine WC.seq (WC.region ?_)
     refine W.any (.assign rfl) rfl rfl rfl ?_
     refine W.nil (E.thenN (WC.ret (E.blkR (E.thenR (E.thenR (E.blkR (E.thenR ?_)))))))
     refine E.retG1 rfl rfl ?_
     exact ⟨false, rfl, ⟨fun h => (by cases h), fun h => by have hh := (mayL_all.1 h).1 k (by omega); (try simp only [coinL, decide_eq_true_eq] at *); omega⟩, L2⟩
    ·refine G.any rfl rfl (.dec (.move rfl) (decide_eq_false q4_17)) rfl rfl rfl ?_
     refine G.anyg rfl rfl (.move rfl) rfl rfl rfl (rfl) rfl rfl ?_
     refine G.anyg rfl rfl (.field0 fa73_2 rfl) rfl rfl rfl (rfl) rfl rfl ?_
     refine G.anyg rfl rfl (.idxAo (k) Tryz.underlying35 sz3 rfl rfl (rfl) (by omega)) rfl rfl rfl (rfl) rfl rfl ?_
     refine G.rdg rfl rfl (.loadB (v := .int .i64 ((s.h k))) na3 rfl f3 (seatH_at s (by omega))) rfl rfl rfl (rfl) rfl rfl ?_
     refine G.efg rfl rfl rfl rfl rfl (rfl) rfl rfl ?_
     refine Ef.call go28 rfl rfl (rcoin_ok (s.h k) w4) ?_
     rintro _ w4_22 ⟨rfl, h4_22⟩
     refine ⟨_, rfl, ?_⟩
     refine ⟨fun _ => h4_22, ?_⟩
     have L4 := L2.trans h4_22
     refine G.anyg rfl rfl (.not rfl) rfl rfl rfl (rfl) rfl rfl ?_
     refine G.any rfl rfl (.pickF rfl rfl rfl) rfl rfl rfl ?_
     refine G.nil (E.thenN ?_)
     by_cases c1 : (coinL (s.h k)) = true
     ·refine WC.condN rfl (congrArg not (c1)) ?_
      refine WC.skip (E.blkN (E.thenN (WC.region ?_)))
      refine W.any (.move rfl) rfl rfl rfl ?_
      refine W.any (.add rfl rfl (by omega)) rfl rfl rfl ?_
      refine W.any (.assign rfl) rfl rfl rfl ?_
      refine W.nil ?_
      have f5 := (f3.le h4_22)
      refine E.again (k + 1) (.cons rfl (.cons rfl (.cons rfl (.nil _)))) ?_ ?_
      ·exact ⟨by omega, (fun i hi => (Nat.lt_succ_iff_lt_or_eq.1 hi).elim (hall i) (fun hh => by subst hh; (try simp only [coinL, decide_eq_true_eq] at *); omega)), L4, by have := zl0; have := d4.size; have := h4_22.size; omega, f5⟩
      ·first | omega | (simp only []; omega)
     ·refine WC.condY rfl (congrArg not ((Bool.eq_false_iff.2 c1))) ?_
      refine WC.seq (WC.region ?_)
      refine W.any (.assign rfl) rfl rfl rfl ?_
      refine W.nil (E.thenN (WC.ret (E.blkR (E.thenR (E.thenR (E.blkR (E.thenR ?_)))))))
      refine E.retG1 rfl rfl ?_
      exact ⟨false, rfl, ⟨fun h => (by cases h), fun h => by have hh := (mayL_all.1 h).1 k (by omega); (try simp only [coinL, decide_eq_true_eq] at *); omega⟩, L4⟩
  ·refine WC.condN rfl (decide_eq_false c0) ?_
   refine WC.exit (E.thenX (E.thenX (E.blkH (E.thenN (WC.seq (WC.region ?_))))))
   refine W.any (.field0 fa73_0 rfl) rfl rfl rfl ?_
   refine W.rd (.loadB (v := .int .i64 (s.ch)) na3 rfl f0_0 rfl) rfl rfl rfl ?_
   refine W.any (.geq rfl rfl) rfl rfl rfl ?_
   by_cases q6_3 : 0 ≤ s.ch
   ·refine W.any (.dec (.move rfl) (decide_eq_true q6_3)) rfl rfl rfl ?_
    refine W.rdg (Any.rd (.field0 fa73_0 rfl) _) rfl rfl rfl (rfl) rfl rfl ?_
    refine W.rdg (.loadB (v := .int .i64 (s.ch)) na3 rfl f0_0 rfl) rfl rfl rfl (rfl) rfl rfl ?_
    refine W.rdg (Any.rd (.leq rfl rfl) _) rfl rfl rfl (rfl) rfl rfl ?_
    refine W.any (.pickT rfl rfl rfl) rfl rfl rfl ?_
    by_cases q6_8 : s.ch ≤ 39
    ·refine W.any (.dec (.move rfl) (decide_eq_true q6_8)) rfl rfl rfl ?_
     refine W.rdg (Any.rd (.field0 fa73_1 rfl) _) rfl rfl rfl (rfl) rfl rfl ?_
     refine W.rdg (Any.rd (.idxAo (0) Tryz.underlying35 sz3 rfl rfl (rfl) (by omega)) _) rfl rfl rfl (rfl) rfl rfl ?_
     refine W.rdg (.loadB (v := .int .i64 (s.p0)) na3 rfl f0_0 rfl) rfl rfl rfl (rfl) rfl rfl ?_
     refine W.rdg (Any.rd (.field0 fa73_1 rfl) _) rfl rfl rfl (rfl) rfl rfl ?_
     refine W.rdg (Any.rd (.idxAo (1) Tryz.underlying35 sz3 rfl rfl (rfl) (by omega)) _) rfl rfl rfl (rfl) rfl rfl ?_
     refine W.rdg (.loadB (v := .int .i64 (s.p1)) na3 rfl f0_0 rfl) rfl rfl rfl (rfl) rfl rfl ?_
     refine W.rdg (Any.rd (.neq rfl rfl) _) rfl rfl rfl (rfl) rfl rfl ?_
     refine W.any (.pickT rfl rfl rfl) rfl rfl rfl ?_
     refine W.any (.assign rfl) rfl rfl rfl ?_
     refine W.nil (E.thenN (WC.ret ?_))
     refine E.retG1 rfl rfl ?_
     refine ⟨_, rfl, ?_, Ll0⟩; rw [mayL_all]; have hs2 : ∀ i, i < 2 → 0 ≤ s.p i ∧ s.p i < m.mine.length ∧ 0 ≤ s.h i ∧ s.h i ≤ 1125899906842624 := (fun i hi => hall i (by omega)); simp only [decide_eq_true_eq, Bool.false_eq_true, false_iff]; first | exact ⟨fun h => ⟨hs2, by omega, by omega, h⟩, fun h => h.2.2.2⟩ | exact fun h => by omega
    ·refine W.any (.dec (.move rfl) (decide_eq_false q6_8)) rfl rfl rfl ?_
     refine W.skip rfl rfl rfl (rfl) rfl rfl ?_
     refine W.skip rfl rfl rfl (rfl) rfl rfl ?_
     refine W.skip rfl rfl rfl (rfl) rfl rfl ?_
     refine W.skip rfl rfl rfl (rfl) rfl rfl ?_
     refine W.skip rfl rfl rfl (rfl) rfl rfl ?_
     refine W.skip rfl rfl rfl (rfl) rfl rfl ?_
     refine W.skip rfl rfl rfl (rfl) rfl rfl ?_
     refine W.any (.pickF rfl rfl rfl) rfl rfl rfl ?_
     refine W.any (.assign rfl) rfl rfl rfl ?_
     refine W.nil (E.thenN (WC.ret ?_))
     refine E.retG1 rfl rfl ?_
     refine ⟨_, rfl, ?_, Ll0⟩; rw [mayL_all]; have hs2 : ∀ i, i < 2 → 0 ≤ s.p i ∧ s.p i < m.mine.length ∧ 0 ≤ s.h i ∧ s.h i ≤ 1125899906842624 := (fun i hi => hall i (by omega)); simp only [decide_eq_true_eq, Bool.false_eq_true, false_iff]; first | exact ⟨fun h => ⟨hs2, by omega, by omega, h⟩, fun h => h.2.2.2⟩ | exact fun h => by omega
   ·refine W.any (.dec (.move rfl) (decide_eq_false q6_3)) rfl rfl rfl ?_
    refine W.skip rfl rfl rfl (rfl) rfl rfl ?_
    refine W.skip rfl rfl rfl (rfl) rfl rfl ?_
    refine W.skip rfl rfl rfl (rfl) rfl rfl ?_
    refine W.any (.pickF rfl rfl rfl) rfl rfl rfl ?_
    refine W.any (.move rfl) rfl rfl rfl ?_
    refine W.skip rfl rfl rfl (rfl) rfl rfl ?_
    refine W.skip rfl rfl rfl (rfl) rfl rfl ?_
    refine W.skip rfl rfl rfl (rfl) rfl rfl ?_
    refine W.skip rfl rfl rfl (rfl) rfl rfl ?_
    refine W.skip rfl rfl rfl (rfl) rfl rfl ?_
    refine W.skip rfl rfl rfl (rfl) rfl rfl ?_
    refine W.skip rfl rfl rfl (rfl) rfl rfl ?_
    refine W.any (.pickF rfl rfl rfl) rfl rfl rfl ?_
    refine W.any (.assign rfl) rfl rfl rfl ?_
    refine W.nil (E.thenN (WC.ret ?_))
    refine E.retG1 rfl rfl ?_
    refine ⟨_, rfl, ?_, Ll0⟩; rw [mayL_all]; have hs2 : ∀ i, i < 2 → 0 ≤ s.p i ∧ s.p i < m.mine.length ∧ 0 ≤ s.h i ∧ s.h i ≤ 1125899906842624 := (fun i hi => hall i (by omega)); simp only [decide_eq_true_eq, Bool.false_eq_true, false_iff]; first | exact ⟨fun h => ⟨hs2, by omega, by omega, h⟩, fun h => h.2.2.2⟩ | exact fun h => by omega

theorem rworth_ok {gp cm cl ch_ : Nat} {Am Al Ah : Option Addr} {m : RLed} (party : Int) (w : World) (hL : RLL w gp Am cm Al cl Ah ch_ m) (hf : SmallR m) : Calls Tryz.prog 43 #[.pointer (some ⟨gp, 0, none⟩), .int .i64 (party)] w fun r w' => r = .returned (.int .i64 (worthR m party)) ∧ Le w w' := by
 have hfl := hf.few
 refine enter Tryz.func43 rfl rfl ?_
 have L0 := Le.refl w
 refine WC.seq (WC.region ?_)
 refine W.any (.assign rfl) rfl rfl rfl ?_
 refine W.nil (E.thenN (WC.seq (WC.region ?_)))
 refine W.any (.move rfl) rfl rfl rfl ?_
 refine W.any (.move rfl) rfl rfl rfl ?_
 refine W.ef rfl rfl rfl ?_
 refine Ef.call go42 rfl rfl (rown_ok party w (hL.chP (L0.chP (fun _ => False)) (fun _ _ hf => hf)) hf) ?_
 rintro _ w1_2 ⟨rfl, h1_2⟩
 refine ⟨_, rfl, ?_⟩
 have L1 := L0.trans h1_2
 refine W.any (.assign rfl) rfl rfl rfl ?_
 refine W.nil (E.thenN (WC.seq (WC.seq (WC.region ?_))))
 refine W.any (.assign rfl) rfl rfl rfl ?_
 refine W.nil (E.thenN (WC.block ?_))
 refine WC.loop (ι := Nat) (fun k => [(0, .pointer (some ⟨gp, 0, none⟩)), (1, .int .i64 (party)), (5, .int .i64 ((worthT m party k))), (6, .int .i64 (((k : Nat) : Int)))]) (fun k wl0 => (k ≤ m.l.length) ∧ Le w wl0 ∧ w1_2.heap.size ≤ wl0.heap.size) (fun k => m.l.length - k) 0 ?_ ?_ ?_
 ·exact .cons rfl (.cons rfl (.cons' rfl (int_eq (by simp [worthT])) (.cons rfl (.nil _))))
 ·exact ⟨Nat.zero_le _, L1, Nat.le_refl _⟩
 ·rintro k wl0 ⟨hk, Ll0, zl0⟩
  have hwt := worthT_le hf party k (by omega)
  refine WC.seq (WC.seq (WC.region ?_))
  refine W.any (.move rfl) rfl rfl rfl ?_
  refine W.any (.move rfl) rfl rfl rfl ?_
  refine W.any (.nilCheck rfl) rfl rfl rfl ?_
  refine W.any (.field0 fa71_1 rfl) rfl rfl rfl ?_
  refine W.rd (.loadB (v := .slice Al m.l.length cl) na68 rfl (hL.hp.le Ll0) rfl) rfl rfl rfl ?_
  refine W.rd (.len Tryz.underlying68 rfl) rfl rfl rfl ?_
  refine W.any (.lss rfl rfl) rfl rfl rfl ?_
  refine W.nil (E.thenN ?_)
  by_cases c0 : ((k : Nat) : Int) < ((m.l.length : Nat) : Int)
  ·refine WC.condY rfl (decide_eq_true c0) ?_
   refine WC.skip (E.thenN (WC.seq (WC.block (WC.seq (WC.region ?_)))))
   refine W.any (.assign rfl) rfl rfl rfl ?_
   refine W.nil (E.thenN (WC.block ?_))
   refine WC.loop (ι := Nat) (fun j => [(0, .pointer (some ⟨gp, 0, none⟩)), (1, .int .i64 (party)), (5, .int .i64 ((worthT m party k + sideT m party (m.l.getD k noSeat) j))), (6, .int .i64 (((k : Nat) : Int))), (7, .int .i64 (((j : Nat) : Int)))]) (fun j wl1 => (j ≤ 2) ∧ Le w wl1 ∧ wl0.heap.size ≤ wl1.heap.size) (fun j => 2 - j) 0 ?_ ?_ ?_
   ·exact .cons rfl (.cons rfl (.cons' rfl (int_eq (by simp [sideT])) (.cons rfl (.cons rfl (.nil _)))))
   ·exact ⟨by omega, Ll0, Nat.le_refl _⟩
   ·rintro j wl1 ⟨hj, Ll1, zl1⟩
    refine WC.seq (WC.seq (WC.region ?_))
    refine W.any (.move rfl) rfl rfl rfl ?_
    refine W.any (.lss rfl rfl) rfl rfl rfl ?_
    refine W.nil (E.thenN ?_)
    by_cases c1 : ((j : Nat) : Int) < 2
    ·refine WC.condY rfl (decide_eq_true c1) ?_
     have hst := sideT_le hf party (k := k) (by omega) j (by omega)
     have hhe := heldT_le hf (m.l.getD k noSeat).ch ((j : Nat) : Int)
     have hsk := seatOk_at (hf.seats k (by omega)) (k := j) (by omega)
     refine WC.skip (E.thenN (WC.seq (WC.block (WC.seq (WC.region ?_)))))
     refine W.any (.move rfl) rfl rfl rfl ?_
     refine W.any (.nilCheck rfl) rfl rfl rfl ?_
     refine W.any (.field0 fa71_1 rfl) rfl rfl rfl ?_
     refine W.rd (.loadB (v := .slice Al m.l.length cl) na68 rfl (hL.hp.le Ll1) rfl) rfl rfl rfl ?_
     refine W.any (.move rfl) rfl rfl rfl ?_
     refine W.any (.move rfl) rfl rfl rfl ?_
     refine W.any (.idxS (k) Tryz.underlying68 sz73 rfl rfl (hL.hS.vec.isSome seatV_row (by omega)) (rfl) (by omega)) rfl rfl rfl ?_
     refine W.any (.vfield fa73_1 (hL.hS.vec.isSome seatV_row (by omega)) rfl) rfl rfl rfl ?_
     refine W.any (.vidx (j) Tryz.underlying35 sz3 (hL.hS.vec.isSome seatV_row (by omega)) rfl rfl (rfl) (by omega)) rfl rfl rfl ?_
     refine W.rd (.vcellQ (j := k) (o := 1) (q := j) (v := .int .i64 (((m.l.getD k noSeat).p j))) na3 rfl (hL.hS.vec.le Ll1) seatV_row (getS m.l noSeat (by omega)) (seatP_at _ (by omega))) rfl rfl rfl ?_
     refine W.any (.move rfl) rfl rfl rfl ?_
     refine W.any (.eql rfl rfl) rfl rfl rfl ?_
     refine W.nil (E.thenN ?_)
     by_cases c2 : ((m.l.getD k noSeat).p j) = party
     ·refine WC.condY rfl (decide_eq_true c2) ?_
      refine WC.draw [0, 1, 2, 3, 4, 5, 6, 7, 8, 9, 10, 11, 12, 13, 14, 15, 16, 17, 18, 19, 20, 21, 22, 23, 24] mixed (by kernel_rfl) ?_
      intro w9 d9
      have L2 := Ll1.trans d9
      refine G.any rfl rfl (.move rfl) rfl rfl rfl ?_
      refine G.any rfl rfl (.move rfl) rfl rfl rfl ?_
      refine G.any rfl rfl (.nilCheck rfl) rfl rfl rfl ?_
      refine G.any rfl rfl (.field0 fa71_1 rfl) rfl rfl rfl ?_
      refine G.rd rfl rfl (.loadB (v := .slice Al m.l.length cl) na68 rfl (hL.hp.le L2) rfl) rfl rfl rfl ?_
      refine G.any rfl rfl (.move rfl) rfl rfl rfl ?_
      refine G.any rfl rfl (.move rfl) rfl rfl rfl ?_
      refine G.any rfl rfl (.idxS (k) Tryz.underlying68 sz73 rfl rfl (hL.hS.vec.isSome seatV_row (by omega)) (rfl) (by omega)) rfl rfl rfl ?_
      refine G.any rfl rfl (.vfield fa73_2 (hL.hS.vec.isSome seatV_row (by omega)) rfl) rfl rfl rfl ?_
      refine G.any rfl rfl (.vidx (j) Tryz.underlying35 sz3 (hL.hS.vec.isSome seatV_row (by omega)) rfl rfl (rfl) (by omega)) rfl rfl rfl ?_
      refine G.rd rfl rfl (.vcellQ (j := k) (o := 3) (q := j) (v := .int .i64 (((m.l.getD k noSeat).h j))) na3 rfl (hL.hS.vec.le L2) seatV_row (getS m.l noSeat (by omega)) (seatH_at _ (by omega))) rfl rfl rfl ?_
      refine G.any rfl rfl (.add rfl rfl (by omega)) rfl rfl rfl ?_
      refine G.any rfl rfl (.move rfl) rfl rfl rfl ?_
      refine G.any rfl rfl (.move rfl) rfl rfl rfl ?_
      refine G.any rfl rfl (.nilCheck rfl) rfl rfl rfl ?_
      refine G.any rfl rfl (.field0 fa71_1 rfl) rfl rfl rfl ?_
      refine G.rd rfl rfl (.loadB (v := .slice Al m.l.length cl) na68 rfl (hL.hp.le L2) rfl) rfl rfl rfl ?_
      refine G.any rfl rfl (.move rfl) rfl rfl rfl ?_
      refine G.any rfl rfl (.idxS (k) Tryz.underlying68 sz73 rfl rfl (hL.hS.vec.isSome seatV_row (by omega)) (rfl) (by omega)) rfl rfl rfl ?_
      refine G.any rfl rfl (.vfield fa73_0 (hL.hS.vec.isSome seatV_row (by omega)) rfl) rfl rfl rfl ?_
      refine G.rd rfl rfl (.vcell (j := k) (o := 0) (v := .int .i64 ((m.l.getD k noSeat).ch)) na3 rfl (hL.hS.vec.le L2) seatV_row (getS m.l noSeat (by first | omega | (simp only [List.length_cons, List.length_nil]; omega))) rfl) rfl rfl rfl ?_
      refine G.any rfl rfl (.move rfl) rfl rfl rfl ?_
      refine G.ef rfl rfl rfl rfl rfl ?_
      refine Ef.call go41 rfl rfl (rheld_ok ((m.l.getD k noSeat).ch) ((j : Nat) : Int) w9 (hL.chP (L2.chP (fun _ => False)) (fun _ _ hf => hf)) hf) ?_
      rintro _ w9_22 ⟨rfl, h9_22⟩
      refine ⟨_, rfl, ?_⟩
      refine ⟨fun _ => h9_22, ?_⟩
      have L3 := L2.trans h9_22
      refine G.any rfl rfl (.add rfl rfl (by omega)) rfl rfl rfl ?_
      refine G.any rfl rfl (.assign rfl) rfl rfl rfl ?_
      refine G.nil (E.blkN (E.thenN (WC.region ?_)))
      refine W.any (.move rfl) rfl rfl rfl ?_
      refine W.any (.add rfl rfl (by omega)) rfl rfl rfl ?_
      refine W.any (.assign rfl) rfl rfl rfl ?_
      refine W.nil ?_
      refine E.again (j + 1) (.cons rfl (.cons rfl (.cons' rfl (int_eq (by rw [sideT_next]; first | (rw [if_pos (by assumption)]; omega) | (rw [if_neg (by assumption)]; omega))) (.cons rfl (.cons rfl (.nil _)))))) ?_ ?_
      ·exact ⟨by omega, L3, by have := zl1; have := d9.size; have := h9_22.size; omega⟩
      ·first | omega | (simp only []; omega)
     ·refine WC.condN rfl (decide_eq_false c2) ?_
      refine WC.skip (E.blkN (E.thenN (WC.region ?_)))
      refine W.any (.move rfl) rfl rfl rfl ?_
      refine W.any (.add rfl rfl (by omega)) rfl rfl rfl ?_
      refine W.any (.assign rfl) rfl rfl rfl ?_
      refine W.nil ?_
      refine E.again (j + 1) (.cons rfl (.cons rfl (.cons' rfl (int_eq (by rw [sideT_next]; first | (rw [if_pos (by assumption)]; omega) | (rw [if_neg (by assumption)]; omega))) (.cons rfl (.cons rfl (.nil _)))))) ?_ ?_
      ·exact ⟨by omega, Ll1, by have := zl1; omega⟩
      ·first | omega | (simp only []; omega)
    ·refine WC.condN rfl (decide_eq_false c1) ?_
     refine WC.exit (E.thenX (E.thenX (E.blkH (E.blkN (E.thenN (WC.region ?_))))))
     refine W.any (.move rfl) rfl rfl rfl ?_
     refine W.any (.add rfl rfl (by omega)) rfl rfl rfl ?_
     refine W.any (.assign rfl) rfl rfl rfl ?_
     refine W.nil ?_
     refine E.again (k + 1) (.cons rfl (.cons rfl (.cons' rfl (int_eq (by rw [worthT_next (by omega), show j = 2 by omega])) (.cons rfl (.nil _))))) ?_ ?_
     ·exact ⟨by omega, Ll1, by have := zl0; have := zl1; have := h1_2.size; omega⟩
     ·first | omega | (simp only []; omega)
  ·refine WC.condN rfl (decide_eq_false c0) ?_
   refine WC.exit (E.thenX (E.thenX (E.blkH (E.thenN (WC.seq (WC.region ?_))))))
   refine W.any (.move rfl) rfl rfl rfl ?_
   refine W.any (.assign rfl) rfl rfl rfl ?_
   refine W.nil (E.thenN (WC.ret ?_))
   refine E.retG1 rfl rfl ?_
   exact ⟨by rw [show k = m.l.length by omega, worthT_all], Ll0⟩
end Go.Proofs.YtmgfgbplbemklaaGreat

namespace Go.Proofs.YtmgfgbplbemklaaGreat
open Go Go.Sx Go.Num Go.Gsp Go.Lsp
set_option maxRecDepth 20000
set_option linter.unusedSimpArgs false
set_option linter.unusedVariables false
theorem rput_ok {gp n cl : Nat} {Al : Option Addr} {l : List Seat} {va vb vc : Value} (t : Seat) (w : World) (hp0 : Blk w gp 71 #[va, .slice Al n cl, vb, vc]) (hS0 : OVec w 0 73 seatV 5 Al n cl l) (hne : rowOf Al cl ≠ some gp) (hn : n ≤ 1000) : Calls Tryz.prog 60 #[.pointer (some ⟨gp, 0, none⟩), .agg (seatV t).toArray] w fun r w' => r = .returned (.tuple #[]) ∧ ChP w w' (fun k => k = gp) ∧ ∃ k Al' cl', (k ≤ n ∧ (∀ j, j < k → (l.getD j noSeat).ch < t.ch) ∧ (k < n → ¬ (l.getD k noSeat).ch < t.ch)) ∧ Blk w' gp 71 #[va, .slice Al' ((l.take k ++ t :: l.drop k)).length cl', vb, vc] ∧ OVec w' w.heap.size 73 seatV 5 Al' ((l.take k ++ t :: l.drop k)).length cl' (l.take k ++ t :: l.drop k) := by
 have hnl := hS0.1
 refine enter Tryz.func60 rfl rfl ?_
 have L0 := ChP.refl w (fun k => k = gp)
 refine WC.seq (WC.region ?_)
 refine W.ef rfl rfl rfl ?_
 refine Ef.boxA rfl ?_
 intro g0_0 w0_0 hg0_0 b0_0 h0_0
 have L1 := L0.le h0_0
 have b0_0 : Blk w0_0 g0_0 73 (seatV t).toArray := b0_0
 refine W.nil (E.thenN (WC.seq (WC.region ?_)))
 refine W.any (.assign rfl) rfl rfl rfl ?_
 refine W.nil (E.thenN (WC.seq (WC.block ?_)))
 have f2 := (hp0.le h0_0)
 have f3 := (hS0.le h0_0)
 refine WC.loop (ι := Nat) (fun k => [(0, .pointer (some ⟨gp, 0, none⟩)), (3, .pointer (some ⟨g0_0, 0, none⟩)), (4, .int .i64 (((k : Nat) : Int)))]) (fun k wl0 => (k ≤ n) ∧ (∀ j, j < k → (l.getD j noSeat).ch < t.ch) ∧ ChP w wl0 (fun k => k = gp) ∧ w0_0.heap.size ≤ wl0.heap.size ∧ Blk wl0 gp 71 #[va, .slice Al n cl, vb, vc] ∧ OVec wl0 0 73 seatV 5 Al n cl l ∧ Blk wl0 g0_0 73 (seatV t).toArray) (fun k => n - k) 0 ?_ ?_ ?_
 ·exact .cons rfl (.cons rfl (.cons rfl (.nil _)))
 ·exact ⟨Nat.zero_le _, (fun j hj => absurd hj (Nat.not_lt_zero _)), L1, Nat.le_refl _, f2, f3, b0_0⟩
 ·rintro k wl0 ⟨hk, hz, Ll0, zl0, f0_0, f0_1, f0_2⟩
  refine WC.seq (WC.seq ?_)
  refine WC.draw [0, 1, 2, 3, 4, 5, 6, 7, 8, 9, 10, 11, 12, 13, 14, 15, 16, 17, 18, 19] mixed (by kernel_rfl) ?_
  intro w2 d2
  have L4 := Ll0.le d2
  refine G.any rfl rfl (.move rfl) rfl rfl rfl ?_
  refine G.any rfl rfl (.move rfl) rfl rfl rfl ?_
  refine G.any rfl rfl (.nilCheck rfl) rfl rfl rfl ?_
  refine G.any rfl rfl (.field0 fa71_1 rfl) rfl rfl rfl ?_
  have f5 := (f0_0.le d2)
  refine G.rd rfl rfl (.loadB (v := .slice Al n cl) na68 rfl f5 rfl) rfl rfl rfl ?_
  refine G.rd rfl rfl (.len Tryz.underlying68 rfl) rfl rfl rfl ?_
  refine G.any rfl rfl (.lss rfl rfl) rfl rfl rfl ?_
  by_cases q2_7 : ((k : Nat) : Int) < ((n : Nat) : Int)
  ·refine G.any rfl rfl (.dec (.move rfl) (decide_eq_true q2_7)) rfl rfl rfl ?_
   refine G.anyg rfl rfl (.move rfl) rfl rfl rfl (rfl) rfl rfl ?_
   refine G.anyg rfl rfl (.nilCheck rfl) rfl rfl rfl (rfl) rfl rfl ?_
   refine G.anyg rfl rfl (.field0 fa71_1 rfl) rfl rfl rfl (rfl) rfl rfl ?_
   refine G.rdg rfl rfl (.loadB (v := .slice Al n cl) na68 rfl f5 rfl) rfl rfl rfl (rfl) rfl rfl ?_
   refine G.anyg rfl rfl (.move rfl) rfl rfl rfl (rfl) rfl rfl ?_
   refine G.anyg rfl rfl (.idxS (k) Tryz.underlying68 sz73 rfl rfl (hS0.vec.isSome seatV_row (by omega)) (rfl) (by omega)) rfl rfl rfl (rfl) rfl rfl ?_
   refine G.anyg rfl rfl (.vfield fa73_0 (hS0.vec.isSome seatV_row (by omega)) rfl) rfl rfl rfl (rfl) rfl rfl ?_
   have f6 := (f0_1.le d2)
   refine G.rdg rfl rfl (.vcell (j := k) (o := 0) (v := .int .i64 ((l.getD k noSeat).ch)) na3 rfl f6.vec seatV_row (getS l noSeat (by first | omega | (simp only [List.length_cons, List.length_nil]; omega))) rfl) rfl rfl rfl (rfl) rfl rfl ?_
   refine G.anyg rfl rfl (.field0 fa73_0 rfl) rfl rfl rfl (rfl) rfl rfl ?_
   have f7 := (f0_2.le d2)
   refine G.rdg rfl rfl (.loadB (v := .int .i64 (t.ch)) na3 rfl f7 rfl) rfl rfl rfl (rfl) rfl rfl ?_
   refine G.anyg rfl rfl (.lss rfl rfl) rfl rfl rfl (rfl) rfl rfl ?_
   refine G.any rfl rfl (.pickT rfl rfl rfl) rfl rfl rfl ?_
   refine G.nil (E.thenN ?_)
   by_cases c0 : ((l.getD k noSeat).ch) < t.ch
   ·refine WC.condY rfl (decide_eq_true c0) ?_
    refine WC.skip (E.thenN (WC.block (WC.region ?_)))
    refine W.any (.move rfl) rfl rfl rfl ?_
    refine W.any (.add rfl rfl (by omega)) rfl rfl rfl ?_
    refine W.any (.assign rfl) rfl rfl rfl ?_
    refine W.nil (E.blkN ?_)
    refine E.again (k + 1) (.cons rfl (.cons rfl (.cons rfl (.nil _)))) ?_ ?_
    ·exact ⟨by omega, (fun j hj => by rcases Nat.lt_or_ge j k with h | h; exact hz j h; rw [show j = k by omega]; assumption), L4, by have := zl0; have := d2.size; omega, f5, f6, f7⟩
    ·first | omega | (simp only []; omega)
   ·refine WC.condN rfl (decide_eq_false c0) ?_
    refine WC.exit (E.thenX (E.thenX (E.blkH (E.thenN (WC.seq ?_)))))
    refine WC.draw [0, 2, 3, 4, 5, 6, 7, 1, 8, 9] mixed (by kernel_rfl) ?_
    intro w4 d4
    have L8 := L4.le d4
    have f9 := (f7.le d4)
    refine G.rd rfl rfl (.loadAll ag73 (by rfl) rfl f9) rfl rfl rfl ?_
    refine G.any rfl rfl (.move rfl) rfl rfl rfl ?_
    refine G.any rfl rfl (.nilCheck rfl) rfl rfl rfl ?_
    refine G.any rfl rfl (.field0 fa71_1 rfl) rfl rfl rfl ?_
    have f10 := (f5.le d4)
    refine G.rd rfl rfl (.loadB (v := .slice Al n cl) na68 rfl f10 rfl) rfl rfl rfl ?_
    refine G.any rfl rfl (.move rfl) rfl rfl rfl ?_
    have f11 := (f6.le d4)
    have cp12 := f11.cap
    have v13 := f11.vec.cutL cl k (by omega) (by omega) seatV_row
    have v13l := v13.1
    refine G.any rfl rfl (.cutL (k) Tryz.underlying68 sz73 rfl rfl (by omega) (by omega) (by omega)) rfl rfl rfl ?_
    refine G.ef rfl rfl rfl rfl rfl ?_
    refine Ef.buildSliceV (len := 1) [_] Tryz.underlying68 el73 rfl (by simp [Value.cells, seatV_row.len]) rfl (by decide) (by decide) ?_
    intro g4_1 w4_1 hg4_1 b4_1 h4_1
    refine ⟨fun _ => h4_1, ?_⟩
    have L14 := L8.le h4_1
    have b4_1 : Blk w4_1 g4_1 73 (([t]).map seatV).flatten.toArray := b4_1
    have o4_1 : OVec w4_1 w4.heap.size 73 seatV 5 (some ⟨g4_1, 0, none⟩) 1 1 ([t]) := b4_1.ovec hg4_1 seatV_row rfl rfl (by decide)
    have f15 := (v13.le h4_1)
    refine G.ef rfl rfl rfl rfl rfl ?_
    refine Ef.vcat Tryz.underlying68 el73 Tryz.underlying68 seatV_row rfl o4_1 rfl f15 (by omega) (by unfold maxLen; omega) (by have := h4_1.size; omega) ?_
    intro A4_8 c4_8 w4_8 o4_8 h4_8 at4_8
    refine ⟨fun h => absurd h (ne_true_of_eq_false (by kernel_rfl)), ?_⟩
    have L16 : ChP w w4_8 (fun k => k = gp) := L14.ch h4_8 (fun i hi hlt => absurd hlt (by have := (o4_1.row hi).1; have := L8.size; omega))
    refine G.any rfl rfl (.assign rfl) rfl rfl rfl ?_
    refine G.nil (E.thenN (WC.region ?_))
    refine W.any (.move rfl) rfl rfl rfl ?_
    refine W.ef rfl rfl rfl ?_
    refine Ef.buildSlice0 Tryz.underlying68 el73 ?_
    intro g5_1 w5_1 hg5_1 b5_1 h5_1
    have L17 := L16.le h5_1
    have o5_1 : OVec w5_1 w4_8.heap.size 73 seatV 5 (some ⟨g5_1, 0, none⟩) 0 0 [] := OVec.nil _ _ _ _ _ _
    refine W.any (.move rfl) rfl rfl rfl ?_
    refine W.any (.nilCheck rfl) rfl rfl rfl ?_
    refine W.any (.field0 fa71_1 rfl) rfl rfl rfl ?_
    have f18 := (((f10.le h4_1).ch h4_8 (fun he => by have := (o4_1.row he).1; have := f10.lt; omega)).le h5_1)
    refine W.rd (.loadB (v := .slice Al n cl) na68 rfl f18 rfl) rfl rfl rfl ?_
    refine W.any (.move rfl) rfl rfl rfl ?_
    have f19 := (((f11.le h4_1).ch h4_8 ((Apart.symm (fun q h1 h2 => by have := (f11.row h1).2; have := (o4_1.row h2).1; omega)))).le h5_1)
    have cp20 := f19.cap
    have v21 := f19.vec.cutH k (by omega) seatV_row
    have v21l := v21.1
    refine W.any (.cutH (k) Tryz.underlying68 sz73 rfl rfl (rfl) (by omega)) rfl rfl rfl ?_
    refine W.ef rfl rfl rfl ?_
    refine Ef.vcat Tryz.underlying68 el73 Tryz.underlying68 seatV_row rfl o5_1 rfl v21 (by omega) (by unfold maxLen; omega) (by have := h5_1.size; omega) ?_
    intro A5_8 c5_8 w5_8 o5_8 h5_8 at5_8
    have L22 : ChP w w5_8 (fun k => k = gp) := L17.ch h5_8 (fun i hi hlt => absurd hlt (by have := (o5_1.row hi).1; have := L16.size; omega))
    refine W.any (.move rfl) rfl rfl rfl ?_
    have f23 := ((o4_8.le h5_1).ch h5_8 ((Apart.symm (fun q h1 h2 => by have := (o4_8.row h1).2; have := (o5_1.row h2).1; omega))))
    refine W.ef rfl rfl rfl ?_
    refine Ef.vcat Tryz.underlying68 el73 Tryz.underlying68 seatV_row rfl o5_8 rfl f23.vec (by omega) (by unfold maxLen; omega) (by have := h5_1.size; have := h5_8.size; omega) ?_
    intro A5_10 c5_10 w5_10 o5_10 h5_10 at5_10
    have L24 : ChP w w5_10 (fun k => k = gp) := L22.ch h5_10 (fun i hi hlt => absurd hlt (by have := (o5_8.row hi).1; have := L16.size; omega))
    refine W.any (.nilCheck rfl) rfl rfl rfl ?_
    refine W.any (.field0 fa71_1 rfl) rfl rfl rfl ?_
    have f25 := ((f18.ch h5_8 (fun he => by have := (o5_1.row he).1; have := f10.lt; have := h4_1.size; have := h4_8.size; omega)).ch h5_10 (fun he => by have := (o5_8.row he).1; have := f10.lt; have := h4_1.size; have := h4_8.size; omega))
    refine W.ef0 rfl rfl ?_
    refine Ef.store sz68 rfl rfl f25 (by first | decide | (simp; done)) (rfl) ?_
    intro w5_13 b5_13 h5_13
    have b5_13 : Blk w5_13 gp 71 #[va, .slice A5_10 ((0 + k) + (1 + (n - k))) c5_10, vb, vc] := b5_13
    have L26 : ChP w w5_13 (fun k => k = gp) := L24.ch h5_13 (fun i hi _ => by cases hi; exact rfl)
    refine W.nil (E.end_ ?_)
    have f27 := (o5_10.ch h5_13 (fun q hq => by cases hq; exact (fun he => by have := (o5_10.row he).1; have := f10.lt; have := h4_1.size; have := h4_8.size; omega)))
    have hlen : ((0 + k) + (1 + (n - k))) = ((l.take k ++ t :: l.drop k)).length := by simp; try omega
    refine E.ret0 rfl ?_
    exact ⟨rfl, L26, k, _, _, ⟨hk, hz, (fun h0 => by first | (exfalso; omega) | assumption)⟩, (by have hq := b5_13; rw [hlen] at hq; exact hq), ((f27.mono L16.size).cast hlen (by simp))⟩
  ·refine G.any rfl rfl (.dec (.move rfl) (decide_eq_false q2_7)) rfl rfl rfl ?_
   refine G.skip rfl rfl rfl rfl (rfl) rfl rfl ?_
   refine G.skip rfl rfl rfl rfl (rfl) rfl rfl ?_
   refine G.skip rfl rfl rfl rfl (rfl) rfl rfl ?_
   refine G.skip rfl rfl rfl rfl (rfl) rfl rfl ?_
   refine G.skip rfl rfl rfl rfl (rfl) rfl rfl ?_
   refine G.skip rfl rfl rfl rfl (rfl) rfl rfl ?_
   refine G.skip rfl rfl rfl rfl (rfl) rfl rfl ?_
   refine G.skip rfl rfl rfl rfl (rfl) rfl rfl ?_
   refine G.skip rfl rfl rfl rfl (rfl) rfl rfl ?_
   refine G.skip rfl rfl rfl rfl (rfl) rfl rfl ?_
   refine G.skip rfl rfl rfl rfl (rfl) rfl rfl ?_
   refine G.any rfl rfl (.pickF rfl rfl rfl) rfl rfl rfl ?_
   refine G.nil (E.thenN ?_)
   refine WC.condF rfl ?_
   refine WC.exit (E.thenX (E.thenX (E.blkH (E.thenN (WC.seq ?_)))))
   refine WC.draw [0, 2, 3, 4, 5, 6, 7, 1, 8, 9] mixed (by kernel_rfl) ?_
   intro w4 d4
   have L28 := L4.le d4
   have f29 := (f0_2.le (d2.trans d4))
   refine G.rd rfl rfl (.loadAll ag73 (by rfl) rfl f29) rfl rfl rfl ?_
   refine G.any rfl rfl (.move rfl) rfl rfl rfl ?_
   refine G.any rfl rfl (.nilCheck rfl) rfl rfl rfl ?_
   refine G.any rfl rfl (.field0 fa71_1 rfl) rfl rfl rfl ?_
   have f30 := (f5.le d4)
   refine G.rd rfl rfl (.loadB (v := .slice Al n cl) na68 rfl f30 rfl) rfl rfl rfl ?_
   refine G.any rfl rfl (.move rfl) rfl rfl rfl ?_
   have f31 := (f0_1.le (d2.trans d4))
   have cp32 := f31.cap
   have v33 := f31.vec.cutL cl k (by omega) (by omega) seatV_row
   have v33l := v33.1
   refine G.any rfl rfl (.cutL (k) Tryz.underlying68 sz73 rfl rfl (by omega) (by omega) (by omega)) rfl rfl rfl ?_
   refine G.ef rfl rfl rfl rfl rfl ?_
   refine Ef.buildSliceV (len := 1) [_] Tryz.underlying68 el73 rfl (by simp [Value.cells, seatV_row.len]) rfl (by decide) (by decide) ?_
   intro g4_1_1 w4_1_1 hg4_1_1 b4_1_1 h4_1_1
   refine ⟨fun _ => h4_1_1, ?_⟩
   have L34 := L28.le h4_1_1
   have b4_1_1 : Blk w4_1_1 g4_1_1 73 (([t]).map seatV).flatten.toArray := b4_1_1
   have o4_1_1 : OVec w4_1_1 w4.heap.size 73 seatV 5 (some ⟨g4_1_1, 0, none⟩) 1 1 ([t]) := b4_1_1.ovec hg4_1_1 seatV_row rfl rfl (by decide)
   have f35 := (v33.le h4_1_1)
   refine G.ef rfl rfl rfl rfl rfl ?_
   refine Ef.vcat Tryz.underlying68 el73 Tryz.underlying68 seatV_row rfl o4_1_1 rfl f35 (by omega) (by unfold maxLen; omega) (by have := h4_1_1.size; omega) ?_
   intro A4_8_1 c4_8_1 w4_8_1 o4_8_1 h4_8_1 at4_8_1
   refine ⟨fun h => absurd h (ne_true_of_eq_false (by kernel_rfl)), ?_⟩
   have L36 : ChP w w4_8_1 (fun k => k = gp) := L34.ch h4_8_1 (fun i hi hlt => absurd hlt (by have := (o4_1_1.row hi).1; have := L28.size; omega))
   refine G.any rfl rfl (.assign rfl) rfl rfl rfl ?_
   refine G.nil (E.thenN (WC.region ?_))
   refine W.any (.move rfl) rfl rfl rfl ?_
   refine W.ef rfl rfl rfl ?_
   refine Ef.buildSlice0 Tryz.underlying68 el73 ?_
   intro g5_1_1 w5_1_1 hg5_1_1 b5_1_1 h5_1_1
   have L37 := L36.le h5_1_1
   have o5_1_1 : OVec w5_1_1 w4_8_1.heap.size 73 seatV 5 (some ⟨g5_1_1, 0, none⟩) 0 0 [] := OVec.nil _ _ _ _ _ _
   refine W.any (.move rfl) rfl rfl rfl ?_
   refine W.any (.nilCheck rfl) rfl rfl rfl ?_
   refine W.any (.field0 fa71_1 rfl) rfl rfl rfl ?_
   have f38 := (((f30.le h4_1_1).ch h4_8_1 (fun he => by have := (o4_1_1.row he).1; have := f30.lt; omega)).le h5_1_1)
   refine W.rd (.loadB (v := .slice Al n cl) na68 rfl f38 rfl) rfl rfl rfl ?_
   refine W.any (.move rfl) rfl rfl rfl ?_
   have f39 := (((f31.le h4_1_1).ch h4_8_1 ((Apart.symm (fun q h1 h2 => by have := (f31.row h1).2; have := (o4_1_1.row h2).1; omega)))).le h5_1_1)
   have cp40 := f39.cap
   have v41 := f39.vec.cutH k (by omega) seatV_row
   have v41l := v41.1
   refine W.any (.cutH (k) Tryz.underlying68 sz73 rfl rfl (rfl) (by omega)) rfl rfl rfl ?_
   refine W.ef rfl rfl rfl ?_
   refine Ef.vcat Tryz.underlying68 el73 Tryz.underlying68 seatV_row rfl o5_1_1 rfl v41 (by omega) (by unfold maxLen; omega) (by have := h5_1_1.size; omega) ?_
   intro A5_8_1 c5_8_1 w5_8_1 o5_8_1 h5_8_1 at5_8_1
   have L42 : ChP w w5_8_1 (fun k => k = gp) := L37.ch h5_8_1 (fun i hi hlt => absurd hlt (by have := (o5_1_1.row hi).1; have := L36.size; omega))
   refine W.any (.move rfl) rfl rfl rfl ?_
   have f43 := ((o4_8_1.le h5_1_1).ch h5_8_1 ((Apart.symm (fun q h1 h2 => by have := (o4_8_1.row h1).2; have := (o5_1_1.row h2).1; omega))))
   refine W.ef rfl rfl rfl ?_
   refine Ef.vcat Tryz.underlying68 el73 Tryz.underlying68 seatV_row rfl o5_8_1 rfl f43.vec (by omega) (by unfold maxLen; omega) (by have := h5_1_1.size; have := h5_8_1.size; omega) ?_
   intro A5_10_1 c5_10_1 w5_10_1 o5_10_1 h5_10_1 at5_10_1
   have L44 : ChP w w5_10_1 (fun k => k = gp) := L42.ch h5_10_1 (fun i hi hlt => absurd hlt (by have := (o5_8_1.row hi).1; have := L36.size; omega))
   refine W.any (.nilCheck rfl) rfl rfl rfl ?_
   refine W.any (.field0 fa71_1 rfl) rfl rfl rfl ?_
   have f45 := ((f38.ch h5_8_1 (fun he => by have := (o5_1_1.row he).1; have := f30.lt; have := h4_1_1.size; have := h4_8_1.size; omega)).ch h5_10_1 (fun he => by have := (o5_8_1.row he).1; have := f30.lt; have := h4_1_1.size; have := h4_8_1.size; omega))
   refine W.ef0 rfl rfl ?_
   refine Ef.store sz68 rfl rfl f45 (by first | decide | (simp; done)) (rfl) ?_
   intro w5_13_1 b5_13_1 h5_13_1
   have b5_13_1 : Blk w5_13_1 gp 71 #[va, .slice A5_10_1 ((0 + k) + (1 + (n - k))) c5_10_1, vb, vc] := b5_13_1
   have L46 : ChP w w5_13_1 (fun k => k = gp) := L44.ch h5_13_1 (fun i hi _ => by cases hi; exact rfl)
   refine W.nil (E.end_ ?_)
   have f47 := (o5_10_1.ch h5_13_1 (fun q hq => by cases hq; exact (fun he => by have := (o5_10_1.row he).1; have := f30.lt; have := h4_1_1.size; have := h4_8_1.size; omega)))
   have hlen : ((0 + k) + (1 + (n - k))) = ((l.take k ++ t :: l.drop k)).length := by simp; try omega
   refine E.ret0 rfl ?_
   exact ⟨rfl, L46, k, _, _, ⟨hk, hz, (fun h0 => by first | (exfalso; omega) | assumption)⟩, (by have hq := b5_13_1; rw [hlen] at hq; exact hq), ((f47.mono L36.size).cast hlen (by simp))⟩

theorem rdrop_ok {gp n cl : Nat} {Al : Option Addr} {l : List Seat} {va vb vc : Value} (k : Nat) (w : World) (hp0 : Blk w gp 71 #[va, .slice Al n cl, vb, vc]) (hS0 : OVec w 0 73 seatV 5 Al n cl l) (hne : rowOf Al cl ≠ some gp) (hn : n ≤ 1000) (hk : k < n) : Calls Tryz.prog 62 #[.pointer (some ⟨gp, 0, none⟩), .int .i64 (((k : Nat) : Int))] w fun r w' => r = .returned (.tuple #[]) ∧ ChP w w' (fun k => k = gp) ∧ ∃ Al' cl', Blk w' gp 71 #[va, .slice Al' ((l.take k ++ l.drop (k + 1))).length cl', vb, vc] ∧ OVec w' w.heap.size 73 seatV 5 Al' ((l.take k ++ l.drop (k + 1))).length cl' (l.take k ++ l.drop (k + 1)) := by
  have hnl := hS0.1
  refine enter Tryz.func62 rfl rfl ?_
  have L0 := ChP.refl w (fun k => k = gp)
  refine WC.drawR (fun w0 w' => ChP w w' (fun k => k = gp) ∧ Blk w' gp 71 #[va, .slice Al n cl, vb, vc]) [0, 2, 3, 4, 5, 6, 7, 9, 10, 11, 12, 13, 14, 15, 1, 8, 16, 17, 18, 19] mixed (by kernel_rfl) ?_
  intro w0 d0
  have L1 := L0.le d0
  have f2 := (hp0.le d0)
  refine ⟨⟨L1, f2⟩, ?_⟩
  refine GR.any rfl rfl (.move rfl) rfl rfl rfl ?_
  refine GR.any rfl rfl (.move rfl) rfl rfl rfl ?_
  refine GR.any rfl rfl (.nilCheck rfl) rfl rfl rfl ?_
  refine GR.any rfl rfl (.field0 fa71_1 rfl) rfl rfl rfl ?_
  refine GR.rd rfl rfl (fun w' hs => .loadB (v := .slice Al n cl) na68 rfl hs.2 rfl) rfl rfl rfl ?_
  refine GR.any rfl rfl (.move rfl) rfl rfl rfl ?_
  have f3 := (hS0.le d0)
  have cp4 := f3.cap
  have v5 := f3.vec.cutH k (by omega) seatV_row
  have v5l := v5.1
  refine GR.any rfl rfl (.cutH (k) Tryz.underlying68 sz73 rfl rfl (rfl) (by omega)) rfl rfl rfl ?_
  refine GR.any rfl rfl (.move rfl) rfl rfl rfl ?_
  refine GR.any rfl rfl (.nilCheck rfl) rfl rfl rfl ?_
  refine GR.any rfl rfl (.field0 fa71_1 rfl) rfl rfl rfl ?_
  refine GR.rd rfl rfl (fun w' hs => .loadB (v := .slice Al n cl) na68 rfl hs.2 rfl) rfl rfl rfl ?_
  refine GR.any rfl rfl (.move rfl) rfl rfl rfl ?_
  refine GR.any rfl rfl (.add rfl rfl (by omega)) rfl rfl rfl ?_
  have cp6 := f3.cap
  have v7 := f3.vec.cutL cl (k + 1) (by omega) (by omega) seatV_row
  have v7l := v7.1
  refine GR.any rfl rfl (.cutL ((k + 1)) Tryz.underlying68 sz73 rfl rfl (by omega) (by omega) (by omega)) rfl rfl rfl ?_
  refine GR.ef rfl rfl rfl rfl rfl ?_
  refine Ef.buildSlice0 Tryz.underlying68 el73 ?_
  intro g0_1 w0_1 hg0_1 b0_1 h0_1
  have L8 := L1.le h0_1
  have o0_1 : OVec w0_1 w0.heap.size 73 seatV 5 (some ⟨g0_1, 0, none⟩) 0 0 [] := OVec.nil _ _ _ _ _ _
  have f9 := (f2.le h0_1)
  refine ⟨fun _ => ⟨L8, f9⟩, ?_⟩
  have f10 := (v5.le h0_1)
  refine GR.ef rfl rfl rfl rfl rfl ?_
  refine Ef.vcat Tryz.underlying68 el73 Tryz.underlying68 seatV_row rfl o0_1 rfl f10 (by omega) (by unfold maxLen; omega) (by have := h0_1.size; omega) ?_
  intro A0_8 c0_8 w0_8 o0_8 h0_8 at0_8
  have h0_8 := Ch.le_none h0_8
  have L11 := L8.le h0_8
  have f12 := (f9.le h0_8)
  refine ⟨fun _ => ⟨L11, f12⟩, ?_⟩
  have f13 := (v7.le (h0_1.trans h0_8))
  refine GR.ef rfl rfl rfl rfl rfl ?_
  refine Ef.vcat Tryz.underlying68 el73 Tryz.underlying68 seatV_row rfl o0_8 rfl f13 (by omega) (by unfold maxLen; omega) (by have := h0_1.size; have := h0_8.size; omega) ?_
  intro A0_16 c0_16 w0_16 o0_16 h0_16 at0_16
  have L14 : ChP w w0_16 (fun k => k = gp) := L11.ch h0_16 (fun i hi hlt => absurd hlt (by have := (o0_8.row hi).1; have := L1.size; omega))
  refine ⟨fun h => absurd h (ne_true_of_eq_false (by kernel_rfl)), ?_⟩
  refine GR.any rfl rfl (.nilCheck rfl) rfl rfl rfl ?_
  refine GR.any rfl rfl (.field0 fa71_1 rfl) rfl rfl rfl ?_
  have f15 := (f12.ch h0_16 (fun he => by have := (o0_8.row he).1; have := f2.lt; omega))
  refine GR.ef0 rfl rfl rfl rfl ?_
  refine Ef.store sz68 rfl rfl f15 (by first | decide | (simp; done)) (rfl) ?_
  intro w0_19 b0_19 h0_19
  have b0_19 : Blk w0_19 gp 71 #[va, .slice A0_16 ((0 + k) + (n - (k + 1))) c0_16, vb, vc] := b0_19
  have L16 : ChP w w0_19 (fun k => k = gp) := L14.ch h0_19 (fun i hi _ => by cases hi; exact rfl)
  refine ⟨fun h => absurd h (ne_true_of_eq_false (by kernel_rfl)), ?_⟩
  refine GR.nil ?_
  refine E.end_ ?_
  have f17 := (o0_16.ch h0_19 (fun q hq => by cases hq; exact (fun he => by have := (o0_16.row he).1; have := f2.lt; omega)))
  have hlen : ((0 + k) + (n - (k + 1))) = ((l.take k ++ l.drop (k + 1))).length := by simp; try omega
  refine E.ret0 rfl ?_
  exact ⟨rfl, L16, _, _, (by have hq := b0_19; rw [hlen] at hq; exact hq), ((f17.mono L1.size).cast hlen (by simp))⟩
end Go.Proofs.YtmgfgbplbemklaaGreat

namespace Go.Proofs.YtmgfgbplbemklaaGreat
open Go Go.Sx Go.Num Go.Gsp Go.Lsp
set_option maxRecDepth 20000
set_option linter.unusedSimpArgs false
set_option linter.unusedVariables false
theorem worthF_nn {lh : HM} {ls : SM} {party : Int} (hb : ∀ x ∈ lh, 0 ≤ x.2.2.am) (hw : ∀ x ∈ ls, 0 ≤ x.2.2.h0 ∧ 0 ≤ x.2.2.h1) : ∀ x ∈ ls, 0 ≤ worthF lh party x.2.1 x.2.2 := by
  intro x hx
  have h1 : ∀ s, 0 ≤ heldL lh x.2.1 s := fun s => sumF_nonneg (heldF_nn hb)
  have := hw x hx
  have := h1 0
  have := h1 1
  unfold worthF
  split <;> split <;> omega
theorem seat_h_nn {s : Seat} (k : Nat) (h0 : 0 ≤ s.h0) (h1 : 0 ≤ s.h1) : 0 ≤ s.h k := by
  unfold Seat.h
  split
  · exact h0
  · exact h1
def worthK (lh : HM) (party ch : Int) (s : Seat) (k : Nat) : Int := (if 0 < k ∧ s.p0 = party then s.h0 + heldL lh ch 0 else 0) + (if 1 < k ∧ s.p1 = party then s.h1 + heldL lh ch 1 else 0)
theorem worthK_0 (lh : HM) (party ch : Int) (s : Seat) : worthK lh party ch s 0 = 0 := by simp [worthK]
theorem worthK_2 (lh : HM) (party ch : Int) (s : Seat) : worthK lh party ch s 2 = worthF lh party ch s := by simp [worthK, worthF]
theorem worthK_step {lh : HM} {party ch : Int} {s : Seat} {k : Nat} (hk : k < 2) : worthK lh party ch s (k + 1) = worthK lh party ch s k + if s.p k = party then s.h k + heldL lh ch (k : Int) else 0 := by
  have : k = 0 ∨ k = 1 := by omega
  rcases this with rfl | rfl
  · simp [worthK, Seat.p, Seat.h]
  · simp [worthK, Seat.p, Seat.h]
theorem worthK_le {lh : HM} {party ch : Int} {s : Seat} (k : Nat) (hb : ∀ x ∈ lh, 0 ≤ x.2.2.am) (h0 : 0 ≤ s.h0) (h1 : 0 ≤ s.h1) : 0 ≤ worthK lh party ch s k ∧ worthK lh party ch s k ≤ worthF lh party ch s := by
  have e0 : 0 ≤ heldL lh ch 0 := sumF_nonneg (heldF_nn hb)
  have e1 : 0 ≤ heldL lh ch 1 := sumF_nonneg (heldF_nn hb)
  unfold worthK worthF
  by_cases a : s.p0 = party <;> by_cases b : s.p1 = party <;> by_cases c : 0 < k <;> by_cases d : 1 < k <;> simp [a, b, c, d] <;> omega
theorem iclone_ok {Aq : Option Addr} {n cq : Nat} {xs : List Int} (w : World) (hO : Vec w iv 1 Aq n xs) (hn : n ≤ 1000000) : Calls Tryz.prog 27 #[.slice Aq n cq] w fun r w' => ∃ (A : Option Addr) (c : Nat), r = .returned (.slice A n c) ∧ OVec w' w.heap.size 3 iv 1 A n c xs ∧ Le w w' := by
 refine enter Tryz.func27 rfl rfl ?_
 have L0 := Le.refl w
 refine WC.seq (WC.region ?_)
 refine W.any (.assign rfl) rfl rfl rfl ?_
 refine W.nil (E.thenN (WC.seq (WC.seq (WC.region ?_))))
 refine W.any (.move rfl) rfl rfl rfl ?_
 refine W.any (.isNil Tryz.underlying22 rfl) rfl rfl rfl ?_
 refine W.nil (E.thenN ?_)
 by_cases c0 : Aq.isNone = true
 ·refine WC.condY rfl (c0) ?_
  refine WC.seq (WC.region ?_)
  refine W.any (.assign rfl) rfl rfl rfl ?_
  refine W.nil (E.thenN (WC.ret (E.thenR ?_)))
  refine E.retG1 rfl rfl ?_
  have hn0 : n = 0 := (Nat.eq_zero_of_not_pos (fun hp => by have := hO.isSome iv_row hp; rw [Option.isSome_iff_ne_none] at this; exact this (Option.isNone_iff_eq_none.1 c0))); subst hn0; have hx : xs = [] := List.eq_nil_of_length_eq_zero hO.1; subst hx; exact ⟨none, 0, rfl, OVec.nil _ _ _ _ _ _, L0⟩
 ·refine WC.condN rfl ((Bool.eq_false_iff.2 c0)) ?_
  refine WC.skip (E.thenN (WC.seq (WC.region ?_)))
  refine W.ef rfl rfl rfl ?_
  refine Ef.buildSlice0 Tryz.underlying22 el3 ?_
  intro g3_0 w3_0 hg3_0 b3_0 h3_0
  have L1 := L0.trans h3_0
  have o3_0 : OVec w3_0 w.heap.size 3 iv 1 (some ⟨g3_0, 0, none⟩) 0 0 [] := OVec.nil _ _ _ _ _ _
  refine W.any (.move rfl) rfl rfl rfl ?_
  refine W.ef rfl rfl rfl ?_
  refine Ef.vcat Tryz.underlying22 el3 Tryz.underlying22 iv_row rfl o3_0 rfl (hO.le L1) (by omega) (by unfold maxLen; omega) (by have := h3_0.size; omega) ?_
  intro A3_2 c3_2 w3_2 o3_2 h3_2 at3_2
  have L2 : Le w w3_2 := L1.then_ h3_2 (fun q hq => Nat.le_trans L0.size (o3_0.row hq).1)
  have o3 := o3_2.cast (m' := n) (ys := xs) (by omega) (by simp)
  refine W.any (.assign rfl) rfl rfl rfl ?_
  refine W.nil (E.thenN (WC.ret ?_))
  refine E.retG1 rfl rfl ?_
  exact ⟨_, _, (by rw [show 0 + n = n by omega]), (o3.mono L0.size), L2⟩

theorem sclone_ok {g ck : Nat} {l : SM} (w : World) (hM : MapG w ikf seatf g l ck) : Calls Tryz.prog 51 #[.map (some g)] w fun r w' => ∃ g', r = .returned (.map (some g')) ∧ w.heap.size ≤ g' ∧ MapG w' ikf seatf g' l ck ∧ Le w w' := by
 refine enter Tryz.func51 rfl rfl ?_
 have L0 := Le.refl w
 refine WC.seq (WC.region ?_)
 refine W.any (.assign rfl) rfl rfl rfl ?_
 refine W.nil (E.thenN (WC.seq (WC.seq (WC.region ?_))))
 refine W.any (.move rfl) rfl rfl rfl ?_
 refine W.any (.dec (.isNilM Tryz.underlying63 rfl) rfl) rfl rfl rfl ?_
 refine W.nil (E.thenN ?_)
 refine WC.condF rfl ?_
 refine WC.skip (E.thenN (WC.seq (WC.region ?_)))
 refine W.any (.move rfl) rfl rfl rfl ?_
 refine W.any (.makeI Tryz.underlying63 rfl rfl) rfl rfl rfl ?_
 refine W.ef rfl rfl rfl ?_
 refine Ef.cloneM Tryz.func71 rfl rfl (by kernel_rfl) (by kernel_rfl) rfl (hM.le L0) ?_
 intro g3_2 w3_2 hg3_2 b3_2 h3_2
 have L1 := L0.trans h3_2
 refine W.rd (.assertM Tryz.underlying63 rfl) rfl rfl rfl ?_
 refine W.any (.assign rfl) rfl rfl rfl ?_
 refine W.nil (E.thenN (WC.ret ?_))
 refine E.retG1 rfl rfl ?_
 exact ⟨_, rfl, (by have := hg3_2; have := L0.size; omega), b3_2, L1⟩



theorem lworth_ok {gp gs gh c cs ck : Nat} {A : Option Addr} {own : List Int} {ls : SM} {lh : HM} {lost : Int} (party : Int) (w : World) (hL : LedL w gp gs gh A c cs ck own ls lh lost) (hb : ∀ x ∈ lh, 0 ≤ x.2.2.am) (hw : ∀ x ∈ ls, 0 ≤ x.2.2.h0 ∧ 0 ≤ x.2.2.h1) (ho : 0 ≤ ownL own party) (ht : worthL own ls lh party ≤ 4611686018427387904) : Calls Tryz.prog 13 #[.pointer (some ⟨gp, 0, none⟩), .int .i64 (party)] w fun r w' => r = .returned (.int .i64 (worthL own ls lh party)) ∧ Le w w' := by
 have hnn := worthF_nn (party := party) hb hw
 refine enter Tryz.func13 rfl rfl ?_
 have L0 := Le.refl w
 refine WC.seq (WC.region ?_)
 refine W.any (.assign rfl) rfl rfl rfl ?_
 refine W.nil (E.thenN (WC.seq (WC.region ?_)))
 refine W.any (.move rfl) rfl rfl rfl ?_
 refine W.any (.move rfl) rfl rfl rfl ?_
 refine W.ef rfl rfl rfl ?_
 refine Ef.call go12 rfl rfl (lown_ok party w (hL.le L0)) ?_
 rintro _ w1_2 ⟨rfl, h1_2⟩
 refine ⟨_, rfl, ?_⟩
 have L1 := L0.trans h1_2
 refine W.any (.assign rfl) rfl rfl rfl ?_
 refine W.nil (E.thenN (WC.seq (WC.seq (WC.region ?_))))
 refine W.any (.move rfl) rfl rfl rfl ?_
 refine W.any (.nilCheck rfl) rfl rfl rfl ?_
 refine W.any (.field0 fa66_1 rfl) rfl rfl rfl ?_
 refine W.rd (.loadB (v := .map (some gs)) na63 rfl (hL.hp.le L1) rfl) rfl rfl rfl ?_
 refine W.ef rfl rfl rfl ?_
 refine Ef.rangeG Tryz.underlying63 rfl (hL.hS.le L1) ?_
 intro r2_4 w2_4 hg2_4 b2_4 h2_4
 have L2 := L1.trans h2_4
 refine W.nil (E.thenN (WC.block ?_))
 refine WC.loop (ι := (Array Nat)) (fun seen => [(0, .pointer (some ⟨gp, 0, none⟩)), (1, .int .i64 (party)), (5, .int .i64 ((worthL own ls lh party - sumF (worthF lh party) (unsG ls seen)))), (17, .pointer (some ⟨r2_4, 0, none⟩))]) (fun seen wl0 => Le w wl0 ∧ w2_4.heap.size ≤ wl0.heap.size ∧ MapG wl0 ikf seatf gs ls cs ∧ MapG wl0 plf holdf gh lh ck ∧ ItG wl0 r2_4 gs cs seen) (fun seen => (unsG ls seen).length) (#[]) ?_ ?_ ?_
 ·exact .cons rfl (.cons rfl (.cons' rfl (int_eq (by rw [unsG_nil]; unfold worthL; omega)) (.cons rfl (.nil _))))
 ·exact ⟨L2, Nat.le_refl _, (hL.hS.le L2), (hL.hH.le L2), b2_4⟩
 ·rintro seen wl0 ⟨Ll0, zl0, f0_0, f0_1, f0_2⟩
  refine WC.seq (WC.region ?_)
  refine W.ef rfl rfl rfl ?_
  refine Ef.nextG rfl f0_0 f0_2 ?_ ?_
  ·intro hu3_0
   refine W.any (.extract (v := .bool false) rfl rfl) rfl rfl rfl ?_
   refine W.nil (E.thenN (WC.seq ?_))
   refine WC.condF rfl ?_
   refine WC.exit (E.thenX (E.thenX (E.blkH (E.thenN (WC.seq (WC.region ?_))))))
   refine W.any (.move rfl) rfl rfl rfl ?_
   refine W.any (.assign rfl) rfl rfl rfl ?_
   refine W.nil (E.thenN (WC.ret ?_))
   refine E.retG1 rfl rfl ?_
   exact ⟨congrArg (fun b => Ending.returned (Value.int .i64 b)) (by rw [hu3_0, sumF_nil]; omega), Ll0⟩
  ·intro e3_0 w3_0 he3_0 b3_0 h3_0
   have L3 : Le w w3_0 := Ll0.then_ h3_0 (fun q hq => by cases hq; exact Nat.le_trans L1.size hg2_4)
   have hp3_0 := unsG_push f0_0.2 he3_0
   have hl3_0 := hp3_0.length_eq
   rw [List.length_cons] at hl3_0
   have hsq := hw _ (unsG_mem he3_0)
   have hsu := sumF_uns (f := worthF lh party) (seen := seen.push e3_0.1) hnn
   have hsp := sumF_perm (f := worthF lh party) hp3_0
   rw [sumF_cons] at hsp
   have hsu2 := sumF_uns (f := worthF lh party) (seen := seen) hnn
   refine W.any (.extract (v := .bool true) rfl rfl) rfl rfl rfl ?_
   refine W.nil (E.thenN (WC.seq ?_))
   refine WC.condT rfl ?_
   refine WC.skip (E.thenN (WC.block (WC.seq (WC.region ?_))))
   have f4 := (f0_0.ch h3_0 (fun h => (show r2_4 ≠ gs from by have := hL.hS.lt; have := h1_2.size; omega) (Option.some.inj h)))
   refine W.ef rfl rfl rfl ?_
   refine Ef.entryG (e := e3_0) rfl f4 b3_0 (unsG_mem he3_0) ?_
   refine W.any (.extract (v := .int .i64 (e3_0.2.1)) rfl rfl) rfl rfl rfl ?_
   refine W.any (.extract (v := .agg (seatV e3_0.2.2).toArray) rfl rfl) rfl rfl rfl ?_
   refine W.ef rfl rfl rfl ?_
   refine Ef.allocA z44 ?_
   intro g4_3 w4_3 hg4_3 b4_3 h4_3
   have L5 := L3.trans h4_3
   have b4_3 : Blk w4_3 g4_3 44 (seatV noSeat).toArray := b4_3
   refine W.any (.assign rfl) rfl rfl rfl ?_
   refine W.ef0 rfl rfl ?_
   refine Ef.storeAll sz44 (by rfl) rfl rfl b4_3 (by simp only [List.size_toArray, seatV_row.len]) (seatV_row.one e3_0.2.2) ?_
   intro w4_5 b4_5 h4_5
   have b4_5 : Blk w4_5 g4_3 44 (seatV e3_0.2.2).toArray := b4_5
   have L6 : Le w w4_5 := L5.then_ h4_5 (fun q hq => by cases hq; exact Nat.le_trans L3.size hg4_3)
   refine W.nil (E.thenN (WC.seq (WC.region ?_)))
   refine W.any (.field0 fa44_1 rfl) rfl rfl rfl ?_
   refine W.rd (.bpart [.int .i64 (e3_0.2.2.p0), .int .i64 (e3_0.2.2.p1)] ag35 rfl (by decide) rfl b4_5 rfl) rfl rfl rfl ?_
   refine W.any (.move rfl) rfl rfl rfl ?_
   refine W.nil (E.thenN (WC.block ?_))
   have f7 := ((f4.le h4_3).ch h4_5 (fun h => (show g4_3 ≠ gs from by have := f4.lt; omega) (Option.some.inj h)))
   have f8 := (((f0_1.ch h3_0 (fun h => (show r2_4 ≠ gh from by have := hL.hH.lt; have := h1_2.size; omega) (Option.some.inj h))).le h4_3).ch h4_5 (fun h => (show g4_3 ≠ gh from by have := f0_1.lt; have := h3_0.size; omega) (Option.some.inj h)))
   have f9 := ((b3_0.le h4_3).ch h4_5 (fun h => (show g4_3 ≠ r2_4 from by have := b3_0.lt; omega) (Option.some.inj h)))
   refine WC.loop (ι := Nat) (fun k => [(0, .pointer (some ⟨gp, 0, none⟩)), (1, .int .i64 (party)), (5, .int .i64 ((worthL own ls lh party - sumF (worthF lh party) (unsG ls seen) + worthK lh party e3_0.2.1 e3_0.2.2 k))), (6, .int .i64 (e3_0.2.1)), (7, .pointer (some ⟨g4_3, 0, none⟩)), (17, .pointer (some ⟨r2_4, 0, none⟩)), (24, .agg #[.int .i64 (e3_0.2.2.p0), .int .i64 (e3_0.2.2.p1)]), (25, .int .i64 (((k : Nat) : Int)))]) (fun k wl1 => (k ≤ 2) ∧ Le w wl1 ∧ w4_5.heap.size ≤ wl1.heap.size ∧ MapG wl1 ikf seatf gs ls cs ∧ MapG wl1 plf holdf gh lh ck ∧ Blk wl1 g4_3 44 (seatV e3_0.2.2).toArray ∧ ItG wl1 r2_4 gs cs (seen.push e3_0.1)) (fun k => 2 - k) 0 ?_ ?_ ?_
   ·exact .cons rfl (.cons rfl (.cons' rfl (int_eq (by rw [worthK_0]; omega)) (.cons rfl (.cons rfl (.cons rfl (.cons rfl (.cons rfl (.nil _))))))))
   ·exact ⟨Nat.zero_le _, L6, Nat.le_refl _, f7, f8, b4_5, f9⟩
   ·rintro k wl1 ⟨hk, Ll1, zl1, f1_0, f1_1, f1_2, f1_3⟩
    have hkl := worthK_le (lh := lh) (party := party) (ch := e3_0.2.1) (s := e3_0.2.2) k hb hsq.1 hsq.2
    have hkl2 := worthK_le (lh := lh) (party := party) (ch := e3_0.2.1) (s := e3_0.2.2) (k + 1) hb hsq.1 hsq.2
    refine WC.seq (WC.region ?_)
    refine W.any (.lss rfl rfl) rfl rfl rfl ?_
    refine W.nil (E.thenN (WC.seq ?_))
    by_cases c1 : ((k : Nat) : Int) < 2
    ·refine WC.condY rfl (decide_eq_true c1) ?_
     refine WC.skip (E.thenN (WC.seq (WC.block (WC.seq (WC.region ?_)))))
     refine W.any (.move rfl) rfl rfl rfl ?_
     refine W.any (.index1 (v := .int .i64 ((e3_0.2.2.p k))) (k) Tryz.underlying35 sz3 na3 rfl rfl (rfl) (by omega) (seatP_ix e3_0.2.2 (by omega))) rfl rfl rfl ?_
     refine W.any (.assign rfl) rfl rfl rfl ?_
     refine W.any (.assign rfl) rfl rfl rfl ?_
     refine W.nil (E.thenN (WC.seq (WC.region ?_)))
     refine W.any (.move rfl) rfl rfl rfl ?_
     refine W.any (.move rfl) rfl rfl rfl ?_
     refine W.any (.eql rfl rfl) rfl rfl rfl ?_
     refine W.nil (E.thenN ?_)
     by_cases c2 : (e3_0.2.2.p k) = party
     ·refine WC.condY rfl (decide_eq_true c2) ?_
      have hhn : 0 ≤ heldL lh e3_0.2.1 ((k : Nat) : Int) := sumF_nonneg (heldF_nn hb)
      have hhk := seat_h_nn k hsq.1 hsq.2
      have hst := worthK_step (lh := lh) (party := party) (ch := e3_0.2.1) (s := e3_0.2.2) (k := k) (by omega)
      rw [if_pos c2] at hst
      have hwl : worthL own ls lh party = ownL own party + sumF (worthF lh party) ls := rfl
      refine WC.draw [0, 1, 2, 3, 4, 5, 6, 7, 8, 9, 10, 11] mixed (by kernel_rfl) ?_
      intro w9 d9
      have L10 := Ll1.trans d9
      refine G.any rfl rfl (.move rfl) rfl rfl rfl ?_
      refine G.any rfl rfl (.move rfl) rfl rfl rfl ?_
      refine G.any rfl rfl (.field0 fa44_2 rfl) rfl rfl rfl ?_
      refine G.any rfl rfl (.idxAo (k) Tryz.underlying35 sz3 rfl rfl (rfl) (by omega)) rfl rfl rfl ?_
      have f11 := (f1_2.le d9)
      refine G.rd rfl rfl (.loadB (v := .int .i64 ((e3_0.2.2.h k))) na3 rfl f11 (seatH_at e3_0.2.2 (by omega))) rfl rfl rfl ?_
      refine G.any rfl rfl (.move rfl) rfl rfl rfl ?_
      refine G.any rfl rfl (.move rfl) rfl rfl rfl ?_
      refine G.any rfl rfl (.move rfl) rfl rfl rfl ?_
      refine G.ef rfl rfl rfl rfl rfl ?_
      refine Ef.call go15 rfl rfl (lheld_ok e3_0.2.1 ((k : Nat) : Int) w9 (hL.le L10) hb (by omega)) ?_
      rintro _ w9_8 ⟨rfl, h9_8⟩
      refine ⟨_, rfl, ?_⟩
      refine ⟨fun _ => h9_8, ?_⟩
      have L12 := L10.trans h9_8
      refine G.any rfl rfl (.add rfl rfl (by omega)) rfl rfl rfl ?_
      refine G.any rfl rfl (.add rfl rfl (by omega)) rfl rfl rfl ?_
      refine G.any rfl rfl (.assign rfl) rfl rfl rfl ?_
      refine G.nil (E.blkN (E.thenN (WC.region ?_)))
      refine W.any (.add rfl rfl (by omega)) rfl rfl rfl ?_
      refine W.any (.move rfl) rfl rfl rfl ?_
      refine W.nil ?_
      have f13 := (f1_0.le (d9.trans h9_8))
      have f14 := (f1_1.le (d9.trans h9_8))
      have f15 := (f11.le h9_8)
      have f16 := (f1_3.le (d9.trans h9_8))
      refine E.again (k + 1) (.cons rfl (.cons rfl (.cons' rfl (int_eq (by rw [worthK_step (by omega)]; first | (rw [if_pos c2]; omega) | (rw [if_neg c2]; omega))) (.cons rfl (.cons rfl (.cons rfl (.cons rfl (.cons rfl (.nil _))))))))) ?_ ?_
      ·exact ⟨by omega, L12, by have := zl1; have := d9.size; have := h9_8.size; omega, f13, f14, f15, f16⟩
      ·first | omega | (simp only []; omega)
     ·refine WC.condN rfl (decide_eq_false c2) ?_
      refine WC.skip (E.blkN (E.thenN (WC.region ?_)))
      refine W.any (.add rfl rfl (by omega)) rfl rfl rfl ?_
      refine W.any (.move rfl) rfl rfl rfl ?_
      refine W.nil ?_
      refine E.again (k + 1) (.cons rfl (.cons rfl (.cons' rfl (int_eq (by rw [worthK_step (by omega)]; first | (rw [if_pos c2]; omega) | (rw [if_neg c2]; omega))) (.cons rfl (.cons rfl (.cons rfl (.cons rfl (.cons rfl (.nil _))))))))) ?_ ?_
      ·exact ⟨by omega, Ll1, by have := zl1; omega, f1_0, f1_1, f1_2, f1_3⟩
      ·first | omega | (simp only []; omega)
    ·refine WC.condN rfl (decide_eq_false c1) ?_
     refine WC.exit (E.thenX (E.thenX (E.blkH (E.blkN ?_))))
     refine E.again (seen.push e3_0.1) (.cons rfl (.cons rfl (.cons' rfl (int_eq (by have h9 := sumF_perm (f := worthF lh party) hp3_0; rw [sumF_cons] at h9; have : k = 2 := (by omega); subst this; rw [worthK_2]; omega)) (.cons rfl (.nil _))))) ?_ ?_
     ·exact ⟨Ll1, by have := zl0; have := zl1; have := h1_2.size; have := h2_4.size; have := h3_0.size; have := h4_3.size; have := h4_5.size; omega, f1_0, f1_1, f1_3⟩
     ·first | omega | (simp only []; omega)
end Go.Proofs.YtmgfgbplbemklaaGreat

